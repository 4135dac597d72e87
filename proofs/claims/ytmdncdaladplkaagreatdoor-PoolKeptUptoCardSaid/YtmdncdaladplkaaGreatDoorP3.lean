/- Contracts over heaps, part 3. Condition: as each statement says. -/
import Derived.Test.YtmdncdaladplkaaGreatDoorP2
import Derived.Test.YtmdncdaladplkaaGreatDoorDobjShelf
import Derived.Test.YtmdncdaladplkaaGreatDoorBtD
import Derived.LaidEql
import Derived.Stop.Asserts
import Derived.RowKitTokens
import Derived.Lib.ItoaLen
set_option linter.all false
set_option maxRecDepth 100000
set_option maxHeartbeats 4000000
namespace Go.Sx.Ob
open Go.Proofs
variable {H O U:Nat}
def SL.flat {h:Hp} {e:TypeId} {sz:Nat} {a:Xax} {xs:List (List Xab)} (s:SL h H e sz (some a) O U xs):aH h a 0 xs.flatten:=by
 obtain ⟨g,f,rest,rfl,i,j,d,k⟩:=s.2.2;refine d.cells _ ?_;rw [dy9,eg9]
def eU (h:Hp):Prop:=∃ e f,h[1]?=some (.cells (Lib.pow10Tab.map λz=>Value.int .u64 z).toArray e f)
def eU.aj {ws:List Nat} {h h':Hp} (p:eU h) (k:Ch ws h h') (a:1∉ws):eU h':=by
 obtain ⟨e,f,b⟩:=p;exact ⟨e,f,k.get b a⟩
def Kx {W:World} {name:String} (a:Tryz.prog.globalNamed name=some 1) (p:eU W.heap):Lib.TabIs Xaz W name .u64 Lib.pow10Tab:=by
 obtain ⟨e,f,b⟩:=p;unfold Lib.TabIs World.var?;rw [a];show (match W.heap[1]? with | some (.cells cs _ _)=>some cs | _=>none)=_;rw [b]
def SC:Tryz.prog.underlying 204=some (.slice 5):=av
def Zw:Tryz.prog.underlying 5=some (.int .u8):=av
def Ze:Tryz.prog.underlying 9=some .string:=av
def Qp {L:Lp} {K:Xab->Hp->Prop} {h:Hp} {p:Xac} {d:List UInt8} {k:Xaa->T} (s:SL h H 5 1 p O U (Rm d)) (h0:d≠[]) (hk:k ⟨d.toArray⟩ L K h) :
  T.dP Xaz (convert 204 9 (.slice p O U)) false [(false,[.string])] k L K h:=by
 show aQ Xaz (convert 204 9 (.slice p O U)) h _;unfold convert;rw [an,az SC,an,az Ze];show aQ Xaz (do match <- underlying 5 with
  | .int .u8=>Conv.bytesToString (.slice p O U)
  | .int .i32=>Conv.runesToString (.slice p O U)
  | _ => stuck "Convert: a slice of what to string?") h _
 rw [an,az Zw];cases p with
 | none =>
  have h1:Rm d=[]:=s.2.2.2
  have:d=[]:=by simpa [Rm] using h1
  exact absurd this h0
 | some a =>
  have hl:O=d.length:=by rw [s.1,JG]
  subst hl;have hf:=SL.flat s;rw [Q6] at hf;exact yj a d U _ hf ⟨(⟨d.toArray⟩,()),rfl,hk⟩
def XT (n:Nat):IntKind.wrap .u8 (IntKind.wrap .i64 ((48:Int)+(Int.tmod (n:Int) (10:Int))))=((UInt8.ofNat (48+n % 10)).toNat:Int):=by
 have e:Int.tmod (n:Int) 10=((n % 10:Nat):Int):=by
  rw [Int.tmod_eq_emod_of_nonneg ad] <;> rfl
 rw [e,wrap_i64 ad ad,wrap_u8 ad ad]
 simp
 omega
end Go.Sx.Ob
namespace Go.Sx.BB
open Go.Sx Go.Sx.Ob
open Go.Proofs
variable {h1 h2:Hp}
def VG (b:UInt8):List Xab:=[.int .u8 (b.toNat:Int)]
structure oX where
 p:Xac
 l:Nat
 c:Nat
 q:Xac
 d:Nat
 ts:Bt
def oX.one (e:oX):List Xab:=[.slice e.p e.l e.c]
def oX.two (e:oX):List Xab:=[.slice e.q e.l e.d]
def oX.uJ (e:oX):List Nat:=ax e.p++ax e.q
def eX (p:Xac) (k:Nat):ax (p.map λa=>a.add k)=ax p:=by
 cases p with
 | none=>rfl
 | some a=>simp [ax,fw]
def MJ {h:Hp} {gb:Nat} {l:List Nat} (a:Ch (gb::l) h h1) (c:Ch [gb] h1 h2):Ch (gb::l) h h2:=a.trans c (λi hi _=>by simp at hi; simp [hi])
def du (b:Nat) (h h':Hp):Prop:=h.size<=h'.size/\∀ i,i<b->i<h.size->h'[i]?=h[i]?
variable {H O:Nat}
def du.of {ws:List Nat} {h h':Hp} (k:Ch ws h h') (a:∀ i,i∈ws->i<h.size->H<=i):du H h h' :=
 ⟨k.size,λi hi hl=>k.same i hl λc=>by have:=a i c hl; omega⟩
def du.trans {b:Nat} {h:Hp} (a:du b h h1) (c:du b h1 h2):du b h h2 :=
 ⟨cd9 a.1 c.1,λi hi hl=>(c.2 i hi (ea9 hl a.1)).trans (a.2 i hi hl)⟩
def du.ext {h:Hp} (a:Ext h h1) (c:du h.size h1 h2):Ext h h2 :=
 ⟨cd9 a.size c.1,λi hi _=>(c.2 i hi (ea9 hi a.size)).trans (a.same i hi ai)⟩
def TC (i j:Int):Int:=IntKind.wrap .u8 (Int.fdiv (IntKind.wrap .i64 (i+(1:Int))) ((2:Int)^(min (IntKind.u64.wrap (IntKind.i64.wrap (8*j.tmod 3))).toNat IntKind.i64.bits)))
def Yu (k j:Nat):List Xab:=[.int .u8 (TC k j)]
def Room (h:Hp) (b:Nat) (p:Xac) (c k m:Nat):Prop :=
 match p with
 | none=>c=0
 | some a=>∃ g o cells,a=⟨g,o,none⟩/\b<=g/\c<9223372036854775808/\br h g 5 cells/\o+c*1<=cells.length/\∀ j,j<m->(cells.drop (o+j*1)).take 1=Yu k j
def Room.We {h:Hp} {p:Xac} {c:Nat} {xs:List (List Xab)} (s:SL h H 5 1 p O c xs) (k:Nat):Room h H p c k 0:=by
 cases p with
 | none=>exact s.2.2.1
 | some a =>
  obtain ⟨g,e,rest,rfl,f,i,d,m⟩:=s.2.2;have hx:=dy xs s.2.1
  have:=s.1
  refine ⟨g,e.length,_,rfl,f,i.2,d,?_,λj n=>ad⟩;rw [ae9,ae9,hx,m,<- this];omega
def Room.aj {ws:List Nat} {h h':Hp} {b:Nat} {p:Xac} {c k m:Nat} (r:Room h b p c k m) (f:Ch ws h h') (j:∀ i,i∈ax p->i∉ws):Room h' b p c k m:=by
 cases p with
 | none=>exact r
 | some a =>
  obtain ⟨g,o,cells,rfl,e,hc,d,l,n⟩:=r;exact ⟨g,o,cells,rfl,e,hc,d.aj f (j g (by simp [ax])),l,n⟩
def yG {cells vs:List Xab} (hv:vs.length=O) (h:H+O<=cells.length):((iw cells H vs).drop H).take O=vs:=by
 rw [ig _ _ _ ad,az9];rw [dc9 (by rw [au9]; omega),dl9 (by rw [au9]; omega),cw9,ci9 ad,bo9 ad]
def sG {cells vs:List Xab} {o' n:Nat} (h:H+vs.length<=cells.length) (h':o'+n<=H):((iw cells H vs).drop o').take n=(cells.drop o').take n:=by
 rw [ig _ _ _ ad,az9];rw [dc9 (by rw [au9]; omega),ci9 (by rw [bs9,au9]; omega)];rw [List.drop_take,fr9,cp9 ad]
end Go.Sx.BB
namespace Go.Sx.Ob
open Go.Proofs
variable {O:Hp} {H V Y:Nat} {U:Xac}
def xc {b':Nat} {e d:TypeId} {sz:Nat} {q:Xac} {c l' c':Nat} {xs ys:List (List Xab)} (s:SL O H e sz U Y c xs) (t:SL O b' d V q l' c' ys) (g:e≠d):∀ i,i∈ax U->i∉ax q:=λi h1 h2=>by
 obtain ⟨j,f⟩:=SL.ye s i h1;obtain ⟨k,a⟩:=SL.ye t i h2;unfold br at f a;rw [f] at a;simp only [Option.some.injEq,Obj.cells.injEq] at a;exact g a.2.1
def SN.put {L:Lp} {K:Xab->Hp->Prop} {h:Hp} {xs:List Xaa} (v:SN h H U V Y xs) {i:Nat} (hi:i<xs.length) (x:Xaa) {a:Xax} (d:U=some a) {k:T}
  (hk:∀ h',SN h' H U V Y (xs.set i x)->Ch (ax U) h h'->h'.size=h.size->k L K h'):T.aD (a.add (i*1)) [.string x] k L K h:=by
 refine SL.store (P:=Xaz) v (i:=i) (vs:=Y0 x) (by rw [ab9]; exact hi) rfl rfl d ?_;intro h' e ch z;refine hk h' ?_ ch z;unfold SN;rw [fh9];exact e
def Ij (zs:List Xaa) (j:Nat) (a:0<j) (hl:j<zs.length):(zs.set j (zs[j-1]'ad)).eraseIdx (j-1)=zs.eraseIdx j:=by
 apply dh9;intro k;rw [List.getElem?_eraseIdx,List.getElem?_eraseIdx]
 by_cases h1:k<j-1
 ·rw [ag9 h1,ag9 ad,dt9 ad]
 ·rw [ac9 h1]
  by_cases h2:k<j
  ·have:k=j-1:=ad
   subst this;rw [ag9 h2,show j-1+1=j from ad,eu9 hl,ad9 ad]
  ·rw [ac9 h2,dt9 ad]
def UD (zs:List Xaa) (j:Nat) (hl:j<zs.length) (x s:Xaa):hQ (zs.set j x) s=(hQ (zs.eraseIdx j) s || decide (x=s)):=by
 unfold hQ;rw [List.set_eq_take_append_cons_drop,ag9 hl,List.eraseIdx_eq_take_drop_succ];simp only [List.any_append,List.any_cons]
 all_goals (cases List.any (zs.take j) (λt=>decide (t=s)) <;> cases List.any (zs.drop (j+1)) (λt=>decide (t=s)) <;> cases decide (x=s) <;> rfl)
def qN {D:List Xaa} {s:Xaa}:hQ D s=true↔s∈D:=by
 unfold hQ;rw [ed9];constructor
 ·rintro ⟨t,ht,e⟩;rw [<- ai9 e];exact ht
 ·intro a;exact ⟨s,a,ak9 rfl⟩
def AU (l:List Xaa) (x:Xaa):(l++[x]).Nodup↔l.Nodup/\x∉l:=by
 rw [ct9];constructor
 ·rintro ⟨a,_,c⟩;exact ⟨a,λd=>c x d x ai rfl⟩
 ·rintro ⟨a,b⟩;refine ⟨a,ai,λy f z g e=>?_⟩;rw [an9.1 g] at e;exact b (e▸f)
def uA {xs : List Xaa} (v : SN O H U V Y xs) (hm : xs.length <= 2 ^ 30) :
    HC Xaz 53 #[.slice U V Y] O λw h' => ∃ p' c' ys, w = .slice p' (ys : List Xaa).length c' /\ ys.length <= xs.length /\ (ys.length = xs.length ↔ xs.Nodup) /\ Ext O h' := by
  refine aX (args := [.slice U V Y]) mixed Tryz.func53 av (oN U V Y) ?_;unfold j3 aR aY bz aK bj bg bY bm aS fH;have n := SN.len v
  refine aM (cs := kX) (λy m h' => ∃ (i : Nat) (ys : List Xaa), y.2.1 = (i : Int) /\ m = xs.length - i /\ i <= xs.length /\ Ext O h' /\ SN h' O.size y.1.1 y.1.2.1 y.1.2.2 ys /\ ys.length <= i /\ (∀ s, hQ ys s = hQ (xs.take i) s) /\ (ys.length = i ↔ (xs.take i).Nodup)) ((none, 0, 0), (0 : Int), ()) xs.length rfl
    ⟨0, [], rfl, rfl, ad, Ch.refl _ _, SL.nil _ _ _ _, ai, λs => rfl, ai⟩ ?_
  rintro ⟨⟨X, z, Z⟩, n4, ⟨⟩⟩ m h1 ⟨i, ys, hi, rfl, hle, D, s, M, A, B⟩;simp only at hi s;subst hi;refine ak ?_;have hz := D.size;have ny := SN.len s;refine aI (λq => ?_) (λq => ?_)
  · have E : i < xs.length :=ad
    have K : ∀ {g}, Ext O g -> ∃ a, U = some a /\ aH g (a.add (i * 1)) 0 [.string xs[i]] := by
      intro g e;obtain ⟨a, o, hc⟩ := SN.cell v E;exact ⟨a, o, aP e ai _ _ hc⟩
    have d : xs.take (i + 1) = xs.take i ++ [xs[i]] := af9 E;generalize hxv : xs[i] = x at K d;obtain ⟨a, o, hc⟩ := K D;refine bM o ?_;rw [cg i];refine ar (x, ()) hc (ak ?_);refine aJ (EY s ad x) ?_;rw [A];have u : hQ (xs.take i) x = true ↔ x ∈ xs.take i := qN;refine ao (λr => ?_) (λr => ?_)
    · have r2 := u.1 r
      refine aC (cs := kX) ((X, z, Z), ((i + 1 : Nat) : Int), ()) (xs.length - (i + 1)) rfl ad (by rw [wrap_i64 ad ad]; rfl) ?_;refine ⟨i + 1, ys, rfl, rfl, ad, D, s, ad, λt => ?_, ?_⟩
      · rw [A, d]
        by_cases e : x = t
        · subst e
          rw [r];exact (qN.2 (ar9.2 (.inl r2))).symm
        · unfold hQ
          rw [List.any_append];simp [e]
      · rw [d, AU]
        exact ⟨λk => ad, λk => absurd r2 k.2⟩
    · have r2 : x ∉ xs.take i := λk => by rw [u.2 k] at r; cases r
      refine bM o ?_;refine ar (x, ()) hc (ak ?_);refine SN.push s x ad hz ?_;intro p' c' h2 s2 k2;have e2 := SN.ext D s (am9 _) k2
      refine aM (cs := cz) (λy m h' => ∃ (j : Nat) (zs : List Xaa), y.1 = (j : Int) /\ m = j /\ j <= ys.length /\ zs.length = ys.length + 1 /\ zs.eraseIdx j = ys /\ Ext O h' /\ SN h' O.size p' (z + 1) c' zs) ((z : Int), ()) ys.length rfl
        ⟨ys.length, ys ++ [x], by rw [ny], rfl, ad, ai, by rw [List.eraseIdx_append_of_length_le ad]; simp, e2, s2⟩ ?_
      rintro ⟨n16, ⟨⟩⟩ m h3 ⟨j, zs, hj, rfl, hjl, F, G, L, C⟩;simp only at hj;subst hj;refine ak ?_
      have N : ∃ a2, p' = some a2 := by
        obtain ⟨a2, h2, _⟩ := SN.cell C (i := 0) ad;exact ⟨a2, h2⟩
      obtain ⟨a2, f⟩ := N
      have last : (T.need (((0 : Int) <= (i : Int)) /\ ((i : Int) < (V : Int))) <|
         T.bh U λ(P : Xax) =>
         T.ah (P.add ((Int.toNat (i : Int)) * 1)) [.string] <| λ(Q : Xaa) =>
         T.need (((0 : Int) <= (m : Int)) /\ ((m : Int) < ((z + 1 : Nat) : Int))) <|
         T.bh p' λ(R : Xax) =>
         T.aD (R.add ((Int.toNat (m : Int)) * 1)) [.string Q] <|
         T.again 0 [.slice p' (z + 1) c', vI (IntKind.wrap .i64 ((i : Int) + (1 : Int)))])
         ([] ++ [Jl (cs := kX) (λy m h' => ∃ (i : Nat) (ys : List Xaa), y.2.1 = (i : Int) /\ m = xs.length - i /\ i <= xs.length /\ Ext O h' /\ SN h' O.size y.1.1 y.1.2.1 y.1.2.2 ys /\ ys.length <= i /\ (∀ s, hQ ys s = hQ (xs.take i) s) /\ (ys.length = i ↔ (xs.take i).Nodup)) (xs.length - i)] ++
          [Jl (cs := cz) (λy m h' => ∃ (j : Nat) (zs : List Xaa), y.1 = (j : Int) /\ m = j /\ j <= ys.length /\ zs.length = ys.length + 1 /\ zs.eraseIdx j = ys /\ Ext O h' /\ SN h' O.size p' (z + 1) c' zs) m])
         (λw h' => ∃ p' c' ys, w = .slice p' (ys : List Xaa).length c' /\ ys.length <= xs.length /\ (ys.length = xs.length ↔ xs.Nodup) /\ Ext O h') h3 := by
        obtain ⟨a, o, hc⟩ := K L;refine bM o ?_;rw [cg i];refine ar (x, ()) hc (ak ?_);refine bM f ?_;rw [cg m];refine SN.put C ad x f ?_;intro h4 S W z4;refine aC (cs := kX) ((p', z + 1, c'), ((i + 1 : Nat) : Int), ()) (xs.length - (i + 1)) rfl ad (by rw [wrap_i64 ad ad]; rfl) ?_;refine ⟨i + 1, zs.set m x, rfl, rfl, ad, SN.ext L C (am9 _) W, S, by rw [cv9]; omega, λt => ?_, ?_⟩
        · rw [UD zs m ad, G, A, d]
          unfold hQ;rw [List.any_append]
          simp
        · rw [cv9, d, AU, <- B, F]
          exact ⟨λk => ⟨ad, r2⟩, λk => ad⟩
      refine ao (λq2 => ?_) (λq2 => last);have q2 := ai9 q2;rw [wrap_i64 ad ad];obtain ⟨a3, I, J⟩ := SN.cell C (i := m - 1) ad;refine bM I ?_;rw [show Int.toNat ((m : Int) - 1) = m - 1 from ad];refine ar (zs[m - 1]'ad, ()) J (ak ?_);obtain ⟨a, o, hc⟩ := K L;refine bM o ?_;refine ar (x, ()) hc (ak ?_);refine ao (λq3 => ?_) (λq3 => ?_)
      · refine bM I ?_
        refine ar (zs[m - 1]'ad, ()) J (ak ?_);refine bM f ?_;rw [cg m];refine SN.put C ad _ f ?_;intro h4 S W z4;refine aC (cs := cz) (((m - 1 : Nat) : Int), ()) (m - 1) rfl ad (by rw [show (m : Int) - 1 = ((m - 1 : Nat) : Int) from ad]; rfl) ?_;exact ⟨m - 1, _, rfl, rfl, ad, by rw [cv9]; exact F, by rw [Ij zs m ad ad]; exact G, SN.ext L C (am9 _) W, S⟩
      · have := last
        rw [cg i] at this;exact this
  · have : i = xs.length :=ad
    subst this;rw [bj9] at B;exact ⟨X, Z, ys, by rw [ny], M, B, D⟩
def HY (e:tI):Bool:=cD e.1.data.toList && oW none e.2.af
def yT (u:cm):Bool:=u.text.all (λx=>cI x 0) && (u.data.all (λx=>cI x 1) && (u.bi.all HY && (decide (gf u).Nodup && dl (gf u) dZ u.aT)))
def uC (x:cB) (l:List cB):eM (x::l)=(if x.kind=1 then [x.name] else [])++eM l:=by
 unfold eM
 by_cases h:x.kind=1 <;> simp [h]
def Hn (D:List Xaa) (x:cB) (s:Xaa):s∈vM D x↔s∈D\/s∈(if x.kind=1 then [x.name] else []):=by
 unfold vM;split <;> simp [or_comm]
theorem sN (sec:Nat):∀ (l:List cB) (D:List Xaa),fv sec D l=true↔(∀ x,x∈l->cI x sec=true)/\(∀ s,s∈eM l->s∉D)/\(eM l).Nodup
 | [],D=>by simp [fv,eM]
 | x::l,D=>by
  rw [fv,bm9,sN sec l,uC];unfold zu;rw [bm9,ct9]
  by_cases h:x.kind=1
  ·simp only [h,decide_true,Bool.true_and,if_true,Bool.not_eq_true',List.mem_cons,List.mem_append,List.mem_singleton,List.not_mem_nil,or_false];have i:hQ D x.name=false↔x.name∉D:=by
    rw [<- Bool.not_eq_true,qN]
   rw [i];have j:∀ s,s∈vM D x↔s=x.name\/s∈D:=λs=>by
    rw [Hn,ag9 h];simp [or_comm]
   simp only [j];constructor
   ·rintro ⟨⟨a,b⟩,c,d,e⟩;refine ⟨?_,?_,?_,e,?_⟩
    ·rintro y (rfl | f)
     ·exact a
     ·exact c y f
    ·rintro s (rfl | g)
     ·exact b
     ·exact λk=>d s g (.inr k)
    ·simp
    ·intro y f z n m;exact d z n (.inl (m▸f))
   ·rintro ⟨a,b,c,d,e⟩;refine ⟨⟨a x (.inl rfl),b _ (.inl rfl)⟩,λy f=>a y (.inr f),λs g k=>?_,d⟩;rcases k with rfl | k
    ·exact e _ rfl _ g rfl
    ·exact b s (.inr g) k
  ·have j:vM D x=D:=by unfold vM; rw [ac9 h]
   simp only [h,decide_false,Bool.false_and,if_false,Bool.not_false,and_true,List.mem_cons,List.nil_append,j];constructor
   ·rintro ⟨a,c,d,e⟩;refine ⟨?_,d,ai,e,ai⟩;rintro y (rfl | f)
    ·exact a
    ·exact c y f
   ·rintro ⟨a,b,_,d,_⟩;exact ⟨a x (.inl rfl),λy f=>a y (.inr f),b,d⟩
theorem Cn:∀ (l:List tI) (D:List Xaa),iy D l=true↔(∀ x,x∈l->HY x=true)/\(∀ s,s∈l.map (·.1)->s∉D)/\(l.map (·.1)).Nodup
 | [],D=>by simp [iy]
 | x::l,D=>by
  rw [iy,bm9,Cn l,bq9,el9];have g:Er D x=true↔x.1∉D/\HY x=true:=by
   unfold Er HY;rw [bm9,bm9,bm9,Bool.not_eq_true',<- Bool.not_eq_true,qN,and_assoc]
  rw [g];simp only [List.mem_cons];constructor
  ·rintro ⟨⟨a,b⟩,c,d,e⟩;refine ⟨?_,?_,?_,e⟩
   ·rintro y (rfl | h)
    ·exact b
    ·exact c y h
   ·rintro s (rfl | f)
    ·exact a
    ·exact λk=>d s f (.inr k)
   ·exact λf=>d _ f (.inl rfl)
  ·rintro ⟨a,b,c,d⟩;refine ⟨⟨b _ (.inl rfl),a x (.inl rfl)⟩,λy h=>a y (.inr h),λs f k=>?_,d⟩;rcases k with rfl | k
   ·exact c f
   ·exact b s (.inr f) k
theorem nl:∀ (l:List cB) (D:List Xaa) (s:Xaa),s∈dc D l↔s∈D\/s∈eM l
 | [],D,s=>by simp [dc,eM]
 | x::l,D,s=>by
  show s∈dc (vM D x) l↔_;rw [nl l,Hn,uC,ar9,or_assoc]
theorem CD:∀ (l:List tI) (D:List Xaa) (s:Xaa),s∈aU D l↔s∈D\/s∈l.map (·.1)
 | [],D,s=>by simp [aU]
 | x::l,D,s=>by
  show s∈aU (x.1::D) l↔_;rw [CD l,bq9,bd9,bd9,<- or_assoc,or_comm (a:=s=x.1)]
variable {Z a:List Xaa}
def NO (h:∀ s,s∈Z↔s∈a) (s:Xaa):hQ Z s=hQ a s:=by
 have:hQ Z s=true↔hQ a s=true:=by rw [qN,qN]; exact h s
 exact ek9.2 this
theorem uX {D E:List Xaa} (h:∀ s,s∈D↔s∈E):∀ (l:List Xaa) (o:Xaa),dl D o l=dl E o l
 | [],o=>rfl
 | x::l,o=>by
  rw [dl,dl,uX h l,UZ,UZ,NO h]
def yW (u:cm):xS u=yT u:=by
 have o:dl u.names dZ u.aT=dl (gf u) dZ u.aT:=by
  refine uX (λs=>?_) _ _;unfold cm.names gf;rw [CD,nl,nl];simp [or_assoc]
 rw [ek9];unfold xS yT;rw [bm9,bm9,bm9,bm9,bm9,bm9,bm9,sN,sN,Cn,o,bn9,bn9,bn9,decide_eq_true_iff];unfold gf;rw [ct9,ct9];have n:∀ s,s∈dc [] u.text↔s∈eM u.text:=λs=>by rw [nl]; simp
 have p:∀ s,s∈dc (dc [] u.text) u.data↔s∈eM u.text\/s∈eM u.data:=λs=>by rw [nl,n]
 simp only [n,p,List.mem_append];constructor
 ·rintro ⟨⟨⟨⟨a,t,b⟩,c,q,h⟩,i,r,c3⟩,g⟩;refine ⟨a,c,i,⟨⟨b,h,λx j y l e=>q y l (e▸j)⟩,c3,λx j y l e=>r y l (e▸j)⟩,g⟩
 ·rintro ⟨a,c,i,⟨⟨b,h,d⟩,c3,f⟩,g⟩;exact ⟨⟨⟨⟨a,λs _=>ai,b⟩,c,λs m k=>d s k s m rfl,h⟩,i,λs m k=>f s k s m rfl,c3⟩,g⟩
def sX {α:Type} (f:α->Bool) (l:List α) (hi:H<l.length):(l.drop H).all f=(f l[H] && (l.drop (H+1)).all f):=by
 rw [ax9 hi,fl9]
def aa3 {x:bK} (v:nL O U H x):iA O U H x.af/\x.af.length<=9223372036854775807/\∀ t,t∈x.af->t.1.size<=maxLen:=⟨v.vw,by have:=v.many; omega,v.names⟩
def A0 (D:List Xaa):Prop:=∀ g,g∈D->cD g.data.toList=true
def A0.snoc (h:A0 Z) (k:A0 a):A0 (Z++a):=λg b=>(ar9.1 b).elim (h g) (k g)
def A0.item {x:cB} {sec:Nat} (r:cI x sec=true):A0 (if x.kind=1 then [x.name] else []):=by
 intro g a;split at a
 ·rename_i b;rw [an9.1 a];rw [Fm b,bm9] at r;exact r.1
 ·simp at a
def M4 {a b c d:bC} {u:cm} (v:vp O a b c d u):HC Xaz 70 #[GH a b c d] O λw h'=>w=vI (fC u:Nat)/\Ext O h':=by
 refine aX (args:=[GH a b c d]) mixed Tryz.func70 av (pt a.p a.l a.c b.p b.l b.c c.p c.l c.c d.p d.l d.c) ?_;unfold kN aR aY bz aK bj cY cv bY aE aS;refine bn ?_;intro g1 D Y z1;have D:br g1 O.size 70 [a.v,b.v,c.v,d.v]:=D;have m1:=v.text.many;have m2:=v.data.many;have m3:=v.bi.many;have m4:=v.aT.many;have n1:=v.text.len;have n2:=v.data.len;have n3:=v.bi.len;have n4:=v.aT.len;simp only [aw];refine ay D ((a.p,a.l,a.c),()) (ak ?_);refine ay D ((b.p,b.l,b.c),()) (ak ?_);rw [wrap_i64 ad ad];unfold fC xj;refine ao ?_ ?_<;>intro q
 ·have q:=ai9 q;exact ⟨by rw [ak9 (show 8192<u.text.length+u.data.length from ad)]; rfl,Y⟩
 have q:=aw9 q;rw [al9 (show ¬ 8192<u.text.length+u.data.length from ad),fa9];refine ay D ((c.p,c.l,c.c),()) (ak ?_);refine ao ?_ ?_<;>intro q
 ·have q:=ai9 q;exact ⟨by rw [ak9 (show 8192<u.bi.length from ad)]; rfl,Y⟩
 have q:=aw9 q;rw [al9 (show ¬ 8192<u.bi.length from ad),ac9 ai,yW];generalize Z:yT u=U;unfold yT at Z;refine aM (cs:=fV) (λy w h'=>∃ i:Nat,y.2.1=(i:Int)/\w=u.text.length-i/\i<=u.text.length/\Ext O h'/\br h' O.size 70 [a.v,b.v,c.v,d.v]/\A0 (eM (u.text.take i))/\((u.text.drop i).all (λx=>cI x 0) && (u.data.all (λx=>cI x 1) && (u.bi.all HY && (decide (gf u).Nodup && dl (gf u) dZ u.aT))))=U) ((0:Int),(0:Int),()) u.text.length rfl
  ⟨0,rfl,rfl,ad,Y,D,λg t=>by simp [eM] at t,Z⟩ ?_
 clear Z;rintro ⟨L,n22,⟨⟩⟩ w h2 ⟨i,hi,rfl,s,m,o,F,f⟩;simp only at hi;subst hi;refine ak ?_;refine ay o ((a.p,a.l,a.c),()) (ak ?_);refine ao ?_ ?_
 case _ =>
  intro q;have q:=ai9 q;have j:i<u.text.length:=ad
  refine ay o ((a.p,a.l,a.c),()) (ak ?_);obtain ⟨aa,pp,M,G,rfl',hc,A⟩:=(v.text.aj m).cells i j;rw [sX _ _ j] at f;have ht:=yn u.text i j;generalize u.text[i]=x at hc A f ht;refine eS (aF rfl' ?_);rw [cg i];refine ar (x.kind,x.name,x.inst.op,x.inst.a,x.inst.b,x.inst.n,x.inst.form,(pp,M,G),(x.e.num:Int),x.n,()) hc (ak ?_);refine aG (D4 (c:=G) (k:=0) A ad) ?_;rintro _ h3 ⟨rfl,z⟩;refine ⟨((if cI x 0 then 0 else 31:Int),()),rfl,ak ?_⟩;cases r:cI x 0 with
  | false =>
   refine bU ai ?_;refine ⟨by rw [<- f,r]; rfl,m.trans z⟩
  | true =>
   refine bX ai ?_;rw [r,bl9] at f;refine aC (cs:=fV) (L,((i+1:Nat):Int),()) (u.text.length-(i+1)) rfl ad (by rw [wrap_i64 ad ad]; rfl) ?_;exact ⟨i+1,rfl,rfl,ad,m.trans z,o.aj z ai,by rw [ht]; exact F.snoc (A0.item r),f⟩
 intro q;have q:=aw9 q
 have:i=u.text.length:=ad
 subst this;rw [dg9,List.all_nil,bl9] at f;rw [bj9] at F;clear Y D;refine aM (cs:=fV) (λy w h'=>∃ i:Nat,y.2.1=(i:Int)/\w=u.data.length-i/\i<=u.data.length/\Ext O h'/\br h' O.size 70 [a.v,b.v,c.v,d.v]/\A0 (eM (u.data.take i))/\((u.data.drop i).all (λx=>cI x 1) && (u.bi.all HY && (decide (gf u).Nodup && dl (gf u) dZ u.aT)))=U) (L,(0:Int),()) u.data.length rfl
  ⟨0,rfl,rfl,ad,m,o,λg t=>by simp [eM] at t,f⟩ ?_
 clear f m o;rintro ⟨N,n32,⟨⟩⟩ w h4 ⟨i,hi,rfl,s,m,o,H,f⟩;simp only at hi;subst hi;refine ak ?_;refine ay o ((b.p,b.l,b.c),()) (ak ?_);refine ao ?_ ?_
 case _ =>
  intro q;have q:=ai9 q;have j:i<u.data.length:=ad
  refine ay o ((b.p,b.l,b.c),()) (ak ?_);obtain ⟨aa,pp,M,G,rfl',hc,A⟩:=(v.data.aj m).cells i j;rw [sX _ _ j] at f;have ht:=yn u.data i j;generalize u.data[i]=x at hc A f ht;refine eS (aF rfl' ?_);rw [cg i];refine ar (x.kind,x.name,x.inst.op,x.inst.a,x.inst.b,x.inst.n,x.inst.form,(pp,M,G),(x.e.num:Int),x.n,()) hc (ak ?_);refine aG (D4 (c:=G) (k:=1) A ad) ?_;rintro _ h3 ⟨rfl,z⟩;refine ⟨((if cI x 1 then 0 else 31:Int),()),rfl,ak ?_⟩;cases r:cI x 1 with
  | false =>
   refine bU ai ?_;refine ⟨by rw [<- f,r]; rfl,m.trans z⟩
  | true =>
   refine bX ai ?_;rw [r,bl9] at f;refine aC (cs:=fV) (N,((i+1:Nat):Int),()) (u.data.length-(i+1)) rfl ad (by rw [wrap_i64 ad ad]; rfl) ?_;exact ⟨i+1,rfl,rfl,ad,m.trans z,o.aj z ai,by rw [ht]; exact H.snoc (A0.item r),f⟩
 intro q;have q:=aw9 q
 have:i=u.data.length:=ad
 subst this;rw [dg9,List.all_nil,bl9] at f;rw [bj9] at H;refine aM (cs:=fV) (λy w h'=>∃ i:Nat,y.2.1=(i:Int)/\w=u.bi.length-i/\i<=u.bi.length/\Ext O h'/\br h' O.size 70 [a.v,b.v,c.v,d.v]/\A0 ((u.bi.take i).map (·.1))/\((u.bi.drop i).all HY && (decide (gf u).Nodup && dl (gf u) dZ u.aT))=U) (N,(0:Int),()) u.bi.length rfl
  ⟨0,rfl,rfl,ad,m,o,λg t=>by simp at t,f⟩ ?_
 clear f m o;rintro ⟨P,n42,⟨⟩⟩ w h4 ⟨i,hi,rfl,s,m,o,I,f⟩;simp only at hi;subst hi;refine ak ?_;refine ay o ((c.p,c.l,c.c),()) (ak ?_);refine ao ?_ ?_
 case _ =>
  intro q;have q:=ai9 q;have j:i<u.bi.length:=ad
  refine ay o ((c.p,c.l,c.c),()) (ak ?_);obtain ⟨aa,pp,M,G,rfl',hc,A,vn⟩:=(v.bi.aj m).cells i j;rw [sX _ _ j] at f;have ht:(u.bi.take (i+1)).map (·.1)=(u.bi.take i).map (·.1)++[u.bi[i].1]:=by rw [af9 j,ao9]; rfl
  generalize u.bi[i]=x at hc A vn f ht;unfold HY at f;refine eS (aF rfl' ?_);rw [cg i];refine ar (x.1,()) ⟨hc.1,trivial⟩ (ak ?_);refine aJ (ui x.1 _ (by have:maxLen=9223372036854775807:=rfl; omega)) ?_;cases s:cD x.1.data.toList with
  | false =>
   refine bU ai ?_;refine ⟨by rw [<- f,s]; rfl,m⟩
  | true =>
   refine bX ai ?_;rw [s,bl9] at f;refine ay o ((c.p,c.l,c.c),()) (ak ?_);refine eS (aF rfl' ?_);refine ar ((pp,M,G),(x.2.num:Int),()) ⟨by rw [add_add]; exact hc.2.1,by rw [add_add]; exact hc.2.2.1,trivial⟩ ?_;refine ak ?_;obtain ⟨w1,w2,w3⟩:=aa3 A;refine iQ (vC w1 w2 w3) ?_;intro h3 z;cases r:oW none x.2.af with
   | false =>
    refine bU ai ?_;refine ⟨by rw [<- f,r]; rfl,m.trans z⟩
   | true =>
    refine bX ai ?_;rw [r,bl9] at f;refine aC (cs:=fV) (P,((i+1:Nat):Int),()) (u.bi.length-(i+1)) rfl ad (by rw [wrap_i64 ad ad]; rfl) ?_;exact ⟨i+1,rfl,rfl,ad,m.trans z,o.aj z ai,by rw [ht]; exact I.snoc (λg t=>by rw [an9.1 t]; exact s),f⟩
 intro q;have q:=aw9 q
 have:i=u.bi.length:=ad
 subst this;rw [dg9,List.all_nil,bl9] at f;rw [bj9] at I;refine ay o ((a.p,a.l,a.c),(b.p,b.l,b.c),(c.p,c.l,c.c),(d.p,d.l,d.c),()) (ak ?_);refine aG (Fs (v.aj m) ad ad ad) ?_;rintro _ h5 ⟨Q,R,S,rfl,s5,e5⟩;refine ⟨((Q,R,S),()),rfl,ak ?_⟩;have hA:(gf u).length<=2^20:=by
  unfold gf
  have:=wR u.text
  have:=wR u.data
  simp only [List.length_append,List.length_map];omega
 have n5:=SN.len s5;refine aG (uA s5 ad) ?_;rintro _ h6 ⟨p41,l43,ys,rfl,hy1,V,e6⟩;refine ⟨((p41,ys.length,l43),()),rfl,ak ?_⟩;have e56:=e5.trans e6;have e06:=m.trans e56
 by_cases B:(gf u).Nodup
 case neg =>
  rw [al9 B] at f;refine bU ?_ ⟨by rw [<- f]; rfl,e06⟩
  have:¬ ys.length=(gf u).length:=λk=>B (V.1 k)
  rw [n5];simp only [bne_iff_ne,ne_eq];omega
 rw [ak9 B,bl9] at f;have hy:=V.2 B;refine bX (by rw [n5,hy]; simp) ?_;have s6:SN h6 h4.size Q R S (gf u):=s5.aj e6 ai;have b6:=o.aj e56 ai;have C:∀ g,g∈gf u->iW dZ g:=λg t=>GF (((F.snoc H).snoc I) g t)
 generalize gf u=E at f s6 hA C;refine aM (cs:=fV) (λy w h'=>∃ i:Nat,y.2.1=(i:Int)/\w=u.aT.length-i/\i<=u.aT.length/\h'=h6/\dl E (pB u.aT i) (u.aT.drop i)=U) (P,(0:Int),()) u.aT.length rfl
  ⟨0,rfl,rfl,ad,rfl,f⟩ ?_
 clear f;rintro ⟨W,n52,⟨⟩⟩ w h7 ⟨i,hi,rfl,hile,rfl,f⟩;simp only at hi;subst hi;refine ak ?_;refine ay b6 ((d.p,d.l,d.c),()) (ak ?_);refine aI ?_ ?_<;>intro q
 ·have j:i<u.aT.length:=ad
  obtain ⟨aa,rfl',hc,A⟩:=(v.aT.aj e06).cells i j;rw [xu _ _ j] at f;unfold UZ at f;refine aI ?_ ?_<;>intro r2
  ·refine ay b6 ((d.p,d.l,d.c),()) (ak ?_);refine eS (aF rfl' ?_);rw [cg i,wrap_i64 (x:=(i:Int)-1) ad ad];refine ar (u.aT[i],()) hc (ak ?_);refine ay b6 ((d.p,d.l,d.c),()) (ak ?_);obtain ⟨ab,J,X,va'⟩:=(v.aT.aj e06).cells (i-1) ad;refine eS (aF J ?_);rw [show Int.toNat ((i:Int)-1)=i-1 from ad];refine ar (u.aT[i-1],()) X (ak ?_);have hla:pB u.aT i=u.aT[i-1]:=by
    unfold pB;rw [ac9 ad,cg9,ad9 ad] <;> rfl
   rw [leB];rw [hla] at f;refine ao ?_ ?_<;>intro K
   ·have K:decide (iW u.aT[i-1] u.aT[i])=false:=by simpa using K
    exact ⟨by rw [<- f,K,fe9]; rfl,e06⟩
   ·have K:decide (iW u.aT[i-1] u.aT[i])=true:=by simpa using K
    rw [K,di9] at f;refine ay b6 ((d.p,d.l,d.c),()) (ak ?_);refine eS (aF rfl' ?_);refine ar (u.aT[i],()) hc (ak ?_);refine aJ (EY s6 ad _) ?_;refine ⟨⟨b6.cells _ rfl,X,b6.cells _ rfl,hc,b6.cells _ rfl,trivial⟩,?_⟩;cases r:hQ E u.aT[i] with
    | false =>
     refine bU ai ?_;exact ⟨by rw [<- f,r]; rfl,e06⟩
    | true =>
     refine bX ai ?_;rw [r,bl9] at f;exact aC (cs:=fV) (W,((i+1:Nat):Int),()) (u.aT.length-(i+1)) rfl ad (by rw [wrap_i64 ad ad]; rfl) ⟨i+1,rfl,rfl,ad,rfl,f⟩
  ·have hi0:i=0:=ad
   subst hi0;refine ay b6 ((d.p,d.l,d.c),()) (ak ?_);refine eS (aF rfl' ?_);refine ar (u.aT[0],()) hc (ak ?_);refine aJ (EY s6 ad _) ?_;refine ⟨⟨b6.cells _ rfl,trivial⟩,?_⟩;cases r:hQ E u.aT[0] with
   | false =>
    refine bU ai ?_;exact ⟨by rw [<- f,r]; rfl,e06⟩
   | true =>
    refine bX ai ?_;have t:decide (iW (pB u.aT 0) u.aT[0])=true:=ak9 (C _ (qN.1 r));rw [r,t,bl9,bl9] at f;exact aC (cs:=fV) (W,((0+1:Nat):Int),()) (u.aT.length-(0+1)) rfl ad (by rw [wrap_i64 ad ad]; rfl) ⟨0+1,rfl,rfl,ad,rfl,f⟩
 ·have:i=u.aT.length:=ad
  subst this;rw [dg9] at f;exact ⟨by rw [<- f]; rfl,e06⟩
end Go.Sx.Ob
namespace Go.Sx
open Go.Proofs
section
variable {α:Type}
def vE (en:α->Xab) (D:List (Xaa × α)):List (Xaa × Xab):=D.map λp=>(p.1,en p.2)
def gE (D:List (Xaa × α)) (s:Xaa):Option α:=(D.find? λp=>decide (s=p.1)).map (·.2)
def pE (D:List (Xaa × α)) (s:Xaa) (v:α):List (Xaa × α):=if (gE D s).isSome then D.map λp=>if s=p.1 then (p.1,v) else p else D++[(s,v)]
def oi (en:α->Xab) (D:List (Xaa × α)) (s:Xaa):look (vE en D) s=(gE D s).map en:=by
 unfold look gE vE
 induction D with
 | nil=>rfl
 | cons p D a =>
  by_cases h:s=p.1
  ·simp [h]
  ·simp only [List.map_cons,List.find?_cons,decide_eq_false h];exact a
def JK (en:α->Xab) (D:List (Xaa × α)) (s:Xaa) (v:α):lG (vE en D) s (en v)=vE en (pE D s v):=by
 unfold lG pE;rw [oi];cases h:gE D s with
 | none=>simp [vE]
 | some q =>
  simp only [Option.map_some,Option.isSome_some,if_true,vE,List.map_map];refine cm9 λp a=>?_
  simp only [Function.comp];split <;> simp_all
def yJ (D:List (Xaa × α)) (s:Xaa) (v:α):(pE D s v).length=if (gE D s).isSome then D.length else D.length+1:=by
 unfold pE;split <;> simp
def yN (D:List (Xaa × α)) (s t:Xaa) (v:α):gE (D++[(s,v)]) t=(gE D t).or (if t=s then some v else none):=by
 unfold gE;rw [List.find?_append];cases h:D.find? (λp=>decide (t=p.1)) with
 | some q=>simp
 | none =>
  simp only [Option.none_or,Option.map_none,List.find?_cons,List.find?_nil]
  by_cases e:t=s
  ·simp [e]
  ·simp [e]
def IZ (D:List (Xaa × α)) (s t:Xaa) (v:α) (d:(gE D s).isSome):gE (D.map λp=>if s=p.1 then (p.1,v) else p) t=if t=s then some v else gE D t:=by
 unfold gE at *
 induction D with
 | nil=>simp at d
 | cons p D f =>
  by_cases h:s=p.1
  ·by_cases e:t=s
   ·simp [h,e]
   ·have g:¬ t=p.1:=λk=>e (k.trans h.symm)
    have i:∀ l:List (Xaa × α),(List.find? (λp=>decide (t=p.1)) (List.map (λp=>if s=p.1 then (p.1,v) else p) l)).map (·.2)=(List.find? (λp=>decide (t=p.1)) l).map (·.2):=by
     intro l
     induction l with
     | nil=>rfl
     | cons q l a =>
      by_cases b:s=q.1
      ·have:¬ t=q.1:=λk=>e (k.trans b.symm)
       simp only [List.map_cons,List.find?_cons,if_pos b,decide_eq_false this];exact a
      ·simp only [List.map_cons,List.find?_cons,if_neg b]
       by_cases ht:t=q.1
       ·simp [ht]
       ·simp only [decide_eq_false ht];exact a
    simp only [List.map_cons,List.find?_cons,if_pos h,decide_eq_false g,if_neg e];exact i D
  ·have c:(Option.map (λx=>x.2) (List.find? (λp=>decide (s=p.1)) D)).isSome:=by
    simpa [List.find?_cons,decide_eq_false h] using d
   simp only [List.map_cons,List.find?_cons,if_neg h]
   by_cases ht:t=p.1
   ·have:¬ t=s:=λk=>h (k.symm.trans ht)
    simp [ht,if_neg (ht▸this)]
   ·simp only [decide_eq_false ht];exact f c
def RE (D:List (Xaa × α)) (s:Xaa) (v:α) (t:Xaa):gE (pE D s v) t=if t=s then some v else gE D t:=by
 unfold pE;split
 ·rename_i h;exact IZ D s t v h
 ·rename_i h;rw [yN]
  by_cases e:t=s
  ·subst e
   have:gE D t=none:=by simpa using h
   rw [this]; simp
  ·simp [e]
def dW (f:Xaa->Option α) (s:Xaa) (v:α):Xaa->Option α:=λt=>if t=s then some v else f t
def cK (f:Xaa->Option α) (s:Xaa) (v:α):dW f s v s=some v:=by simp [dW]
def cn (f:Xaa->Option α) {s t:Xaa} (v:α) (h:t≠s):dW f s v t=f t:=by simp [dW,h]
def eu (en:α->Xab) (h:Hp) (g:Nat) (f:Xaa->Option α) (n:Nat):Prop:=∃ D:List (Xaa × α),fq h g (vE en D)/\(∀ s,gE D s=f s)/\D.length=n
def eu.aj {en:α->Xab} {ws:List Nat} {h h':Hp} {g:Nat} {f:Xaa->Option α} {n:Nat} (m:eu en h g f n) (k:Ch ws h h') (a:g∉ws):eu en h' g f n:=by
 obtain ⟨D,m,r⟩:=m;exact ⟨D,m.aj k a,r⟩
def eu.lt {en:α->Xab} {h:Hp} {g:Nat} {f:Xaa->Option α} {n:Nat} (m:eu en h g f n):g<h.size:=by
 obtain ⟨D,m,r⟩:=m;exact m.lt
def eu.new {en:α->Xab} {h:Hp} {g:Nat} (m:fq h g []):eu en h g (λ_=>none) 0:=⟨[],m,λs=>rfl,rfl⟩
def eu.lG {en:α->Xab} {h':Hp} {g:Nat} {f:Xaa->Option α} {n:Nat} {D:List (Xaa × α)} (a:∀ s,gE D s=f s) (hn:D.length=n) {s:Xaa} {v:α} (m:fq h' g (Sx.lG (vE en D) s (en v))):eu en h' g (dW f s v) (if (f s).isSome then n else n+1):=by
 rw [JK] at m;refine ⟨_,m,λt=>?_,?_⟩
 ·rw [RE,a t]; rfl
 ·rw [yJ,a s,hn]
end
def eI (n:Nat):Xab:=vI (n:Int)
def eB (b:Bool):Xab:=.bool b
def KM:Tryz.prog.underlying 105=some (.map 9 3):=av
def VE:Tryz.prog.underlying 152=some (.map 9 4):=av
def Wm:(Tryz.prog.info? 3).bind (·.zero)=some (vI 0):=av
def QW:(Tryz.prog.info? 4).bind (·.zero)=some (.bool false):=av
section
variable {L:Lp} {K:Xab->Hp->Prop} {h:Hp} {g n:Nat}
variable {H:Int->T}
def Lh {f:Xaa->Option Nat} (m:eu eI h g f n) (s:Xaa) (hk:H (((f s).getD 0:Nat):Int) L K h):T.dP Xaz (Instr.lookup 105 (.map (some g)) (.string s) false) false [(false,[.int .i64])] H L K h:=by
 obtain ⟨D,m,a,hn⟩:=m;refine kD KM xB Wm m s false _ ?_;refine ⟨((((f s).getD 0:Nat):Int),()),?_,hk⟩;simp only [Bool.false_eq_true,if_false];rw [oi,a s]
 all_goals (cases f s <;> rfl)
def Fh {f:Xaa->Option Nat} (m:eu eI h g f n) (s:Xaa) {k:Int->Bool->T} (hk:k (((f s).getD 0:Nat):Int) (f s).isSome L K h):T.dP Xaz (Instr.lookup 105 (.map (some g)) (.string s) true) true [(false,[.int .i64]),(false,[.bool])] k L K h:=by
 obtain ⟨D,m,a,hn⟩:=m;refine kD KM xB Wm m s true _ ?_;refine ⟨((((f s).getD 0:Nat):Int),(f s).isSome,()),?_,hk⟩;rw [ag9 rfl,oi,a s]
 all_goals (cases f s <;> rfl)
variable {O:Xaa->Option Bool}
def Qb (m:eu eB h g O n) (s:Xaa) {k:Bool->T} (hk:k ((O s).getD false) L K h):T.dP Xaz (Instr.lookup 152 (.map (some g)) (.string s) false) false [(false,[.bool])] k L K h:=by
 obtain ⟨D,m,a,hn⟩:=m;refine kD VE xB QW m s false _ ?_;refine ⟨((O s).getD false,()),?_,hk⟩;simp only [Bool.false_eq_true,if_false];rw [oi,a s]
 all_goals (cases O s <;> rfl)
variable {U:Xaa} {V:T}
def sJ {f:Xaa->Option Nat} (m:eu eI h g f n) (a:U.size<=maxLen) {v:Int} {w:Nat} (hv:v=(w:Int)) (hk:∀ h',eu eI h' g (dW f U w) (if (f U).isSome then n else n+1)->Ch [g] h h'->h'.size=h.size->V L K h') :
  T.fI Xaz (Instr.mapUpdate 105 (.map (some g)) (.string U) (vI v)) V L K h:=by
 subst hv;obtain ⟨D,m,b,hn⟩:=m;refine ic KM xB m a _ _ ?_;intro h' c c' d;exact hk h' (eu.lG (en:=eI) b hn c) c' d
def YN (m:eu eB h g O n) (a:U.size<=maxLen) {b:Bool} (hk:∀ h',eu eB h' g (dW O U b) (if (O U).isSome then n else n+1)->Ch [g] h h'->h'.size=h.size->V L K h') :
  T.fI Xaz (Instr.mapUpdate 152 (.map (some g)) (.string U) (.bool b)) V L K h:=by
 obtain ⟨D,m,c,hn⟩:=m;refine ic VE xB m a _ _ ?_;intro h' d c' e;exact hk h' (eu.lG (en:=eB) c hn d) c' e
def zX {α:Type} {en:α->Xab} {t:TypeId} {k:Option Nat->T} (hk:∀ h',eu en h' h.size (λ_=>none) 0->Ext h h'->h'.size=h.size+1->k (some h.size) L K h'):T.dP Xaz (Instr.makeMap t none) false [(false,[.map 0 0])] k L K h:=by
 refine nP _ ?_;intro h' m e z;exact ⟨(some h.size,()),rfl,hk h' (eu.new m) e z⟩
def aaS {α:Type} {en:α->Xab} {f:Xaa->Option α} (m:eu en h g f n) (hk:H (n:Int) L K h):T.dP Xaz (Builtin.len_ #[105] 3 #[.map (some g)]) false [(false,[.int .i64])] H L K h:=by
 obtain ⟨D,m,e,hn⟩:=m;obtain ⟨es,clock,b,c,d,i⟩:=m;have a:es.size=n:=by
  have:=as9 List.length c
  simpa [vE,hn] using this
 show aQ _ _ _ _;unfold Builtin.len_;simp only [List.getElem?_toArray,List.getElem?_cons_zero];rw [an,az KM];simp only [pure_bind];rw [an];refine gU b ai _ ?_;simp only [pure_bind];exact ⟨((n:Int),()),by rw [a]; rfl,hk⟩
def YT {a b:Nat} (hk:H ((min a b:Nat):Int) L K h):T.dP Xaz (Builtin.min_ #[3,3] 3 #[vI (a:Int),vI (b:Int)]) false [(false,[.int .i64])] H L K h:=by
 show aQ _ _ _ _;refine ⟨(((min a b:Nat):Int),()),?_,hk⟩;show Value.int .i64 (if (b:Int)<(a:Int) then (b:Int) else (a:Int))=vI ((min a b:Nat):Int)
 congr 1
 split <;> omega
end
structure cV where
 name:Xaa
 p:Xac
 l:Nat
 c:Nat
 x:bK
def Bg (e:cV):List Xab:=[.string e.name,.slice e.p e.l e.c,.int .u32 e.x.num]
structure vQ (h:Hp) (p:Xac) (l:Nat) (es:List cV):Prop where
 len:l=es.length
 cells:∀ i,(hi:i<es.length)->∃ a,p=some a/\aH h (a.add (i*3)) 0 (Bg es[i])
 fF:∀ e,e∈es->iA h e.p e.l e.x.af
def vQ.aj {h h':Hp} {p:Xac} {l:Nat} {es:List cV} (v:vQ h p l es) (k:Ext h h'):vQ h' p l es :=
 ⟨v.len,λi hi=>by
  obtain ⟨a,b,hc⟩:=v.cells i hi;exact ⟨a,b,aP k ai _ _ hc⟩,λe c=>(v.fF e c).aj k ai⟩
def lx (es:List cV) (s:Xaa):Option Nat:=es.findIdx? λe=>decide (e.name=s)
def HO {es:List cV} {e:cV} (hn:∀ d,d∈es->d.name≠e.name) (s:Xaa):lx (es++[e]) s=dW (lx es) e.name es.length s:=by
 unfold lx dW;rw [ee9]
 by_cases h:s=e.name
 ·subst h
  have:es.findIdx? (λd=>decide (d.name=e.name))=none:=by
   rw [bz9];intro d b;simpa using hn d b
  rw [this];simp [List.findIdx?_cons]
 ·have:¬ e.name=s:=λk=>h k.symm
  rw [ac9 h];cases a:es.findIdx? (λd=>decide (d.name=s)) with
  | none=>show _=List.findIdx? _ es; rw [a]; simp [List.findIdx?_cons,this]
  | some k=>show _=List.findIdx? _ es; rw [a]; simp
variable {Y:Xaa}
def H8 {es:List cV} (h:∀ d,d∈es->d.name≠Y):lx es Y=none:=by
 unfold lx;rw [bz9];intro d a;simpa using h d a
variable {O:Hp} {U:Xac} {H V Z:Nat}
def Bv {es:List cV} (v:vQ O U H es) (hl:es.length<=2^40) (hn:(es.map (·.name)).Nodup) (y:∀ e,e∈es->e.name.size<=maxLen) :
  HC Xaz 62 #[.slice U H V] O λw h'=>(∃ g,w=.map (some g)/\eu eI h' g (lx es) es.length/\O.size<=g)/\Ext O h':=by
 refine aX (args:=[.slice U H V]) mixed Tryz.func62 av (zb U H V) ?_;unfold vq aR aY bz aK dp aE bm bZ aS;refine zX (en:=eI) ?_;intro h1 A B z1;have hll:=v.len;refine aM (cs:=cz) (λx w h'=>∃ i:Nat,x.1=(i:Int)/\i<=es.length/\w=es.length-i/\eu eI h' O.size (lx (es.take i)) i/\Ext O h') ((0:Int),()) es.length rfl ⟨0,rfl,ad,ad,A,B⟩ ?_;rintro ⟨L,⟨⟩⟩ w h2 ⟨i,hi,r,rfl,n,o⟩;simp only at hi;subst hi;refine ak ?_;refine aI ?_ ?_<;>intro C
 ·have b:i<es.length:=ad
  obtain ⟨a,rfl,hc⟩:=(v.aj o).cells i b;have k:es.take (i+1)=es.take i++[es[i]]:=af9 b;have hsz:=y es[i] (ah9 b);have f:∀ d,d∈es.take i->d.name≠es[i].name:=by
   intro d D t;obtain ⟨j,E,rfl⟩:=bh9 D;rw [au9] at E;rw [List.getElem_take] at t;exact dv9.1 hn j i (by rw [ab9]; omega) (by rw [ab9]; omega) ad (by simpa using t)
  generalize es[i]=e at hc k hsz f;refine bM rfl ?_;rw [cg i];refine ar (e.name,(e.p,e.l,e.c),(e.x.num:Int),()) hc (ak ?_);refine bn ?_;intro M F G z3;refine bJ F ?_;intro h4 q I z4;have q:br h4 h2.size 116 [.string e.name,.slice e.p e.l e.c,.int .u32 e.x.num]:=q;have m:Ext h2 h4:=bS G I;refine ay q (e.name,()) (ak ?_);refine sJ (w:=i) (n.aj m ai) hsz rfl ?_;intro N u J P;have hw:=gK i;have K:lx (es.take (i+1))=dW (lx (es.take i)) e.name i:=by
   rw [k]
   funext s
   rw [HO f,au9,cp9 ad]
  rw [H8 f] at u;refine aC (cs:=cz) (((i+1:Nat):Int),()) (es.length-(i+1)) rfl ad (as9 (λz=>[Value.int .i64 z]) hw) ⟨i+1,rfl,ad,rfl,by rw [K]; exact u,bS (o.trans m) J⟩
 ·have hi:i=es.length:=ad
  subst hi;rw [bj9] at n;exact ⟨⟨_,rfl,n,am9 _⟩,o⟩
def tv (of:Xaa->Option bK) (t:Xaa × Nat):dr:=match of t.1 with
 | none=>[t]
 | some y=>y.af.map λu=>(u.1,t.2*u.2 % 4294967296)
def hZ (of:Xaa->Option bK) (n:Nat) (t:Xaa × Nat):Nat:=match of t.1 with
 | none=>n
 | some y=>(n+t.2*y.num % 4294967296) % 4294967296
def dB (of:Xaa->Option bK) (x:bK):bK:=⟨Gf (x.af.flatMap (tv of)),x.af.foldl (hZ of) x.num⟩
structure tE where
 p:Xac
 l:Nat
 c:Nat
 x:bK
def eL (y:tE):Xab:=iD y.p y.l y.c y.x
structure Jy (h:Hp) (g:Nat) (f:Xaa->Option tE) (n:Nat):Prop where
 map:eu eL h g f n
 fF:∀ s y,f s=some y->iA h y.p y.l y.x.af
def Jy.aj {ws:List Nat} {h h':Hp} {g:Nat} {f:Xaa->Option tE} {n:Nat} (m:Jy h g f n) (k:Ch ws h h') (b:g∉ws) (hi:∀ s y,f s=some y->∀ i,i∈ax y.p->i∉ws):Jy h' g f n :=
 ⟨m.map.aj k b,λs y a=>(m.fF s y a).aj k (hi s y a)⟩
def Zz:Tryz.prog.underlying 165=some (.map 9 53):=av
def ZO:(Tryz.prog.info? 53).bind (·.zero)=some (.agg #[.slice none 0 0,.int .u32 0]):=av
variable {a:Lp} {b:Xab->Hp->Prop} {e:Xaa->Option tE}
def Ct {h:Hp} (m:eu eL h H e V) (s:Xaa) {k:Xac->Nat->Nat->Int->Bool->T} (h1:∀ y,e s=some y->k y.p y.l y.c (y.x.num:Int) true a b h) (h0:e s=none->k none 0 0 0 false a b h) :
  T.dP Xaz (Instr.lookup 165 (.map (some H)) (.string s) true) true [(true,[.slice 64,.int .u32]),(false,[.bool])] k a b h:=by
 obtain ⟨D,m,i,hn⟩:=m;refine kD Zz xB ZO m s true _ ?_;rw [ag9 rfl,oi,i s];cases d:e s with
 | none=>exact ⟨((none,0,0),(0:Int),false,()),rfl,h0 d⟩
 | some y=>exact ⟨((y.p,y.l,y.c),(y.x.num:Int),true,()),rfl,h1 y d⟩
def Pb {L:Lp} {K:Xab->Hp->Prop} {h:Hp} {g n:Nat} {f:Xaa->Option tE} (m:eu eL h g f n) {s:Xaa} (a:s.size<=maxLen) (y:tE) {k:T} (hk:∀ h',eu eL h' g (dW f s y) (if (f s).isSome then n else n+1)->Ch [g] h h'->h'.size=h.size->k L K h') :
  T.fI Xaz (Instr.mapUpdate 165 (.map (some g)) (.string s) (.agg #[.slice y.p y.l y.c,.int .u32 (y.x.num:Int)])) k L K h:=by
 obtain ⟨D,m,b,hn⟩:=m;refine ic Zz xB m a _ _ ?_;intro h' d c' e;exact hk h' (eu.lG (en:=eL) b hn d) c' e
def YO (r:Option Nat) (p:Xac) (l:Nat) (c:Xax) (j:Nat) (k:T):T :=
  T.loop [aS] [vI (0:Int)] <| λ(a:Int) =>
  bz a l
  (T.need (IT a l) <|
  T.bh p <| λ(d:Xax) =>
  T.ah (d.add (aK a 2)) [.string,.int .u32] <| λ(e:Xaa) (f:Int) =>
  T.new [bZ,aE (0:Int)] 64 <| λ(b:Xax) =>
  T.aD b [.string e,aE f] <|
  T.ah b [.string] <| λ(s30:Xaa) =>
  dp (Instr.lookup 196 (.map r) (.string s30) false) false [(false,[.int .u32])] <| λ(g:Int) =>
  T.ah (c.add 1) [.int .u32] <| λ(h:Int) =>
  T.ah (b.add 1) [.int .u32] <| λ(i:Int) =>
  T.fI Xaz (Instr.mapUpdate 196 (.map r) (.string s30) (aE (IntKind.wrap .u32 (g+(IntKind.wrap .u32 (h*i)))))) <|
  T.again j [vI (bY (a+(1:Int)))]) k
def Um {L:Lp} {K:Xab->Hp->Prop} {h:Hp} {g o q:Nat} {nm:Xaa} {p:Xac} {l:Nat} {us D:dr} {k:T} {r:Nat} (s:L.length=r) (v:iA h p l us) (hl:us.length<=2^40) (I:∀ t,t∈us->t.1.size<=maxLen) (m:fq h g (vm D)) (M:us≠[]->g∉ax p)
  (N:br h o 64 [.string nm,.int .u32 (q:Int)]) (x:o≠g)
  (hk:∀ J h',fq h' g (vm ((us.map λu=>(u.1,q*u.2 % 4294967296)).foldl jP D))->Ch [g] h h'->k (L++[J]) K h'):YO (some g) p l ⟨o,0,none⟩ r k L K h:=by
 have hll:=v.len;have O:∀ J:List Xab->Hp->Prop,(L++[J])[r]?=some J:=by intro J; subst s; simp
 unfold YO bz aK dp bY IT aE bZ aS;refine aM (cs:=cz) (λy w h'=>∃ (i:Nat),y.1=(i:Int)/\i<=us.length/\w=us.length-i/\Ch [g] h h'/\fq h' g (vm (((us.take i).map λu=>(u.1,q*u.2 % 4294967296)).foldl jP D))) ((0:Int),()) us.length rfl
  ⟨0,rfl,ad,ad,Ch.refl _ _,by simpa using m⟩ ?_
 rintro ⟨n8,⟨⟩⟩ w F ⟨i,hi,G,rfl,e,A⟩;simp only at hi;subst hi;refine ak ?_;refine aI ?_ ?_<;>intro P
 ·have b:i<us.length:=ad
  obtain ⟨a,rfl,hc⟩:=(v.aj e (by intro j B H; rw [an9] at H; subst H; exact M (List.ne_nil_of_length_pos ad) B)).cells i b;have d:us.take (i+1)=us.take i++[us[i]]:=af9 b;have hsz:=I us[i] (ah9 b);generalize us[i]=t at hc d hsz;refine bM rfl ?_;rw [cg i];refine ar (t.1,(t.2:Int),()) hc (ak ?_);refine bn ?_;intro X Q R Y;refine bJ Q ?_;intro h6 f S Z;have f:br h6 F.size 64 (cT t):=f;have c:Ext F h6:=bS R S;have m6:=A.aj c ai;have a6:=(N.aj e (by simpa using x)).aj c ai;refine ay f (t.1,()) (ak ?_);refine qX m6 _ ?_;rw [aw];refine ay a6 ((q:Int),()) (ak ?_);rw [aw];refine ay f ((t.2:Int),()) (ak ?_);generalize C:((us.take i).map λu=>(u.1,q*u.2 % 4294967296)).foldl jP D=E at m6;refine JN (n:=(ej E t.1+q*t.2 % 4294967296) % 4294967296) m6 hsz ?_ ?_
  ·rw [eC,eC,jr,fk9,jr,Int.natCast_mul]
  ·intro h7 U V z7;have hw:=gK i;have W:((us.take (i+1)).map λu=>(u.1,q*u.2 % 4294967296)).foldl jP D=wP E t.1 ((ej E t.1+q*t.2 % 4294967296) % 4294967296):=by
    rw [d,ao9,ck9,C] <;> rfl
   refine aC (cs:=cz) (((i+1:Nat):Int),()) (us.length-(i+1)) (O _) ad (as9 (λz=>[Value.int .i64 z]) hw) ⟨i+1,rfl,ad,rfl,?_,by rw [W]; exact U⟩;exact Ch.trans (Ch.trans e c ai) V (λj B _=>B)
 ·have hi:i=us.length:=ad
  subst hi;rw [bj9] at A;exact hk _ _ A e
variable {c:dr}
def PU {h:Hp} {lv:Nat} (E:a.length=lv) (m:fq h H (vm c)) (hl:c.length<=2^40) (n:Int) (c0:br h V 53 [.slice none 0 0,.int .u32 0])
  (hk:∀ p l d h',SL h' h.size 64 2 p l d ((Gn c).map cT)->Ch [V] h h'->b (.agg #[.slice p l d,.int .u32 n]) h'):LH (some H) ⟨V,0,none⟩ n lv a b h:=by
 have N:∀ J:List Xab->Hp->Prop,(a++[J])[lv]?=some J:=by intro J; subst E; simp
 have hg2:=c0.lt;unfold LH aR aY bz aK cv bg dp aE bm aS;refine bn ?_;intro h2 W X z2;refine bJ W ?_;intro h3 A Y z3;have A:br h3 h.size 53 [.slice none 0 0,.int .u32 n]:=A;have F:Ext h h3:=bS X Y;have m3:=m.aj F ai;have c3:br h3 V 53 [.slice none 0 0,.int .u32 0]:=c0.aj F ai;refine aG (Lu (some H) h3) ?_;rintro _ h4 ⟨rfl,rfl⟩;refine ⟨(.func (.func 117) #[] #[.pointer (some ⟨h3.size,0,none⟩)],()),rfl,ak ?_⟩;have Z:Ext h3 (h3.push (.cells #[.map (some H)] 196)):=Ext.push _ _;have u:(vm c).length<=2^40:=by unfold vm; rw [ab9]; exact hl
 refine aG (uA m3 u) ?_;rintro _ O ⟨pk,P,ck,rfl,B,e5⟩;refine ⟨((pk,P,ck),()),rfl,ak ?_⟩;have e35:=Z.trans e5;have q:(keysOf (vm c)).length<=2^40:=by
  unfold keysOf;rw [List.length_mergeSort,ab9];exact u
 have G:P=(keysOf (vm c)).length:=by rw [B.1,ab9]
 unfold Gn at hk;generalize keysOf (vm c)=ks at B q G hk;have b5:=A.aj e35 ai;have c5:=c3.aj e35 ai;have m5:=m3.aj e35 ai;have e05:=F.trans e35;have hz3:=e35.size;have hb3:=A.lt;have hg:=m.lt;refine aM (cs:=cz) (λx w h'=>∃ (i:Nat) (p:Xac) (l d:Nat),x.1=(i:Int)/\i<=ks.length/\w=ks.length-i/\Ch [h.size] O h'/\br h' h.size 53 [.slice p l d,.int .u32 n] /\
  SL h' O.size 64 2 p l d (((ks.take i).filterMap λk=>if ej c ⟨k.toArray⟩=0 then none else some ((⟨k.toArray⟩:Xaa),ej c ⟨k.toArray⟩)).map cT)/\l<=i) ((0:Int),()) ks.length rfl
  ⟨0,none,0,0,rfl,ad,ad,Ch.refl _ _,b5,SL.nil _ _ _ _,ad⟩ ?_
 rintro ⟨n8,⟨⟩⟩ w h6 ⟨i,p,l,d,hi,Q,rfl,r,C,s,hli⟩;simp only at hi;subst hi;refine ak ?_;have m6:=m5.aj r (by simp; omega);have hz6:=r.size;have I:Ext h h6:=bS e05 r;refine aI ?_ ?_<;>intro g1
 ·have o:i<ks.length:=ad
  have sk6:=B.bf r (λj f=>by have:=(B.cj f).1; simp; omega);obtain ⟨e,rfl,hc⟩:=sk6.cells (i:=i) (by simpa using o);rw [aj9] at hc;have t:ks.take (i+1)=ks.take i++[ks[i]]:=af9 o;generalize ks[i]=k at hc t;refine bM rfl ?_;rw [cg i];refine ar ((⟨k.toArray⟩:Xaa),()) hc (ak ?_);have hw:=gK i;refine qX m6 _ (ao (λV=>?_) (λV=>?_))
  ·have V:((ej c ⟨k.toArray⟩:Nat):Int)≠0:=by simpa using V
   refine ay C ((p,l,d),()) (ak ?_);refine qX m6 _ ?_;refine eZ (vs:=cT (⟨k.toArray⟩,ej c ⟨k.toArray⟩)) A2 uY rfl ad ad av rfl rfl s hz6 ad ad ?_;intro p' c' R S y hp7;have b7:=C.aj y (λhh=>by have:=(s.cj hh).1; omega);refine bJ b7 ?_;intro h8 b8 U z8;refine aC (cs:=cz) (((i+1:Nat):Int),()) (ks.length-(i+1)) (N _) ad (as9 (λz=>[Value.int .i64 z]) hw) ⟨i+1,p',l+1,c',rfl,ad,rfl,?_,b8,?_,ad⟩
   ·exact Ch.trans (Ch.trans r y (λj f hl=>by have:=(s.cj f).1; omega)) U (λj f _=>f)
   ·rw [t,em9,ao9];have M:([k].filterMap λk=>if ej c ⟨k.toArray⟩=0 then none else some ((⟨k.toArray⟩:Xaa),ej c ⟨k.toArray⟩))=[((⟨k.toArray⟩:Xaa),ej c ⟨k.toArray⟩)]:=by
     simp only [List.filterMap_cons,List.filterMap_nil];rw [ac9 ad]
    rw [M];exact S.bf U (λj f=>by have:=(S.cj f).1; simp; omega)
  ·have V:((ej c ⟨k.toArray⟩:Nat):Int)=0:=by simpa using V
   refine aC (cs:=cz) (((i+1:Nat):Int),()) (ks.length-(i+1)) (N _) ad (as9 (λz=>[Value.int .i64 z]) hw) ⟨i+1,p,l,d,rfl,ad,rfl,r,C,?_,ad⟩;rw [t,em9];have M:([k].filterMap λk=>if ej c ⟨k.toArray⟩=0 then none else some ((⟨k.toArray⟩:Xaa),ej c ⟨k.toArray⟩))=[]:=by
    simp only [List.filterMap_cons,List.filterMap_nil];rw [ag9 ad]
   rw [M,cb9];exact s
 ·have hi:i=ks.length:=ad
  subst hi;rw [bj9] at s;have c6:=c5.aj r (by simp; omega);refine ay C ((p,l,d),n,()) (ak ?_);refine bJ c6 ?_;intro R b7 y z7;have b7:br R V 53 [.slice p l d,.int .u32 n]:=b7;refine ay b7 ((p,l,d),n,()) ?_;have hz5:=e05.size;exact hk _ _ _ _ ((s.bf y (λj f=>by have:=(s.cj f).1; simp; omega)).mono ad) (Ch.trans (I.mono ai) y (λj f hl=>f))
variable {f:bK}
def GQ {c:Nat} (v:iA O U H f.af) (m:Jy O V e Z) (hl:f.af.length<=2^40) (hs:∀ t,t∈f.af->t.1.size<=maxLen) (hy:∀ s y,e s=some y->y.x.af.length<=2^40/\∀ t,t∈y.x.af->t.1.size<=maxLen)
  (hN:(f.af.flatMap (tv λs=>(e s).map (·.x))).length<=2^40) :
  HC Xaz 64 #[iD U H c f,.map (some V)] O λw h'=>(∃ p' l' c',w=iD p' l' c' (dB (λs=>(e s).map (·.x)) f)/\SL h' O.size 64 2 p' l' c' ((dB (λs=>(e s).map (·.x)) f).af.map cT))/\Ext O h':=by
 refine aX (args:=[iD U H c f,.map (some V)]) mixed Tryz.func64 av (FP U H c f.num (some V)) ?_;unfold Ew aR aY bz aK cv bg dp aE bm bZ aS cH;have hll:=v.len;refine bn ?_;intro h1 b1 e1 z1;refine bn ?_;intro h2 b2 e2 z2;refine nP _ ?_;intro h3 m3 L z3;refine ⟨(some h2.size,()),rfl,ak ?_⟩;have b13:=(b1.aj e2 ai).aj L ai;have b23:=b2.aj L ai;have e03:=(e1.trans e2).trans L;rw [aw];refine ay b13 ((f.num:Int),()) (ak ?_);refine ay b13 ((U,H,c),()) (ak ?_);have hh:h1.size=O.size+1:=z1;generalize M:(λs=>(e s).map (·.x))=of at hN;have A:∀ s,of s=(e s).map (·.x):=λs=>by rw [<- M]
 refine aM (cs:=W4) (λy w h'=>∃ i:Nat,y.2.1=(i:Int)/\i<=f.af.length/\w=f.af.length-i/\y.1=(((f.af.take i).foldl (hZ of) f.num:Nat):Int)/\Ch [h2.size] h3 h'/\fq h' h2.size (vm (((f.af.take i).flatMap (tv of)).foldl jP [])))
  ((f.num:Int),(0:Int),()) f.af.length rfl ⟨0,rfl,ad,ad,rfl,Ch.refl _ _,m3⟩ ?_
 rintro ⟨n9,n10,⟨⟩⟩ w h4 ⟨i,hi,hile,rfl,G,I,N⟩;simp only at hi G;subst hi G;refine ak ?_;have B:Ext O h4:=bS e03 I;have hz4:=I.size;refine aI ?_ ?_<;>intro g1
 ·have k:i<f.af.length:=ad
  obtain ⟨a,rfl,hc⟩:=(v.aj B ai).cells i k;have C:f.af.take (i+1)=f.af.take i++[f.af[i]]:=af9 k;have hsz:=hs f.af[i] (ah9 k);generalize f.af[i]=t at hc C hsz;have hw:=gK i;refine bM rfl ?_;rw [cg i];refine ar (t.1,(t.2:Int),()) hc (ak ?_);refine bn ?_;intro h5 b5 e5 z5;refine bJ b5 ?_;intro h6 F k6 z6;have F:br h6 h4.size 64 [.string t.1,.int .u32 (t.2:Int)]:=F;have o:Ext h4 h6:=bS e5 k6;have m6:=N.aj o ai;have e06:=B.trans o;have hz6:=o.size;refine ay F (t.1,()) (ak ?_);have d:((f.af.take (i+1)).flatMap (tv of)).foldl jP []=(tv of t).foldl jP (((f.af.take i).flatMap (tv of)).foldl jP []):=by
   rw [C,ej9,ck9]
   simp
  have r:(f.af.take (i+1)).foldl (hZ of) f.num=hZ of ((f.af.take i).foldl (hZ of) f.num) t:=by
   rw [C,ck9]; rfl
  generalize (f.af.take i).foldl (hZ of) f.num=nn at r ⊢;generalize ((f.af.take i).flatMap (tv of)).foldl jP []=D' at d m6 ⊢;refine Ct (m.map.aj e06 ai) t.1 (λy u=>?_) (λP=>?_)
  ·have z:of t.1=some y.x:=by rw [A,u]; rfl
   refine bn ?_;intro h7 Q R z7;refine bJ Q ?_;intro h8 K S z8;have K:br h8 h6.size 53 [.slice y.p y.l y.c,.int .u32 (y.x.num:Int)]:=K;have b:Ext h6 h8:=bS R S;refine bX rfl ?_;refine ay K ((y.p,y.l,y.c),()) (ak ?_);have hh2:h2.size=O.size+2:=ad
   refine Um (q:=t.2) (nm:=t.1) (us:=y.x.af) rfl ((m.fF _ _ u).aj (e06.trans b) ai) (hy _ _ u).1 (hy _ _ u).2 (m6.aj b ai) (λW hb=>by have:=(m.fF _ _ u).Yg W _ hb; omega) (F.aj b ai) ad ?_;intro J h9 X D;have b69:=(F.aj b ai).aj D (by simp; omega);have b89:=K.aj D (by simp; omega);rw [aw];refine ay b69 ((t.2:Int),()) (ak ?_);rw [aw];refine ay b89 ((y.x.num:Int),()) (ak ?_);have E:IntKind.wrap .u32 ((nn:Int)+IntKind.wrap .u32 ((t.2:Int)*(y.x.num:Int)))=((hZ of nn t:Nat):Int):=by
    unfold hZ;rw [z];simp only;rw [eC,eC,jr,fk9,jr,Int.natCast_mul]
   refine aC (cs:=W4) (((hZ of nn t:Nat):Int),((i+1:Nat):Int),()) (f.af.length-(i+1)) rfl ad (by rw [E,hw]; rfl) ⟨i+1,rfl,ad,rfl,by rw [r],Ch.trans (Ch.trans (Ch.trans I o ai) b ai) D (λj Y _=>Y),?_⟩;rw [d];unfold tv;rw [z];exact X
  ·have z:of t.1=none:=by rw [A,P]; rfl
   refine bn ?_;intro h7 Q R z7;refine bJ Q ?_;intro h8 K S z8;have b:Ext h6 h8:=bS R S;have b68:=F.aj b ai;refine bU rfl ?_;refine ay b68 (t.1,()) (ak ?_);refine qX (m6.aj b ai) _ ?_;rw [aw];refine ay b68 ((t.2:Int),()) (ak ?_);refine JN (n:=(ej D' t.1+t.2) % 4294967296) (m6.aj b ai) hsz ?_ ?_
   ·rw [eC,jr,fk9]
   ·intro h9 X D z9;have E:hZ of nn t=nn:=by unfold hZ; rw [z]
    refine aC (cs:=W4) ((nn:Int),((i+1:Nat):Int),()) (f.af.length-(i+1)) rfl ad (by rw [hw]; rfl) ⟨i+1,rfl,ad,rfl,by rw [r,E],Ch.trans (Ch.trans (Ch.trans I o ai) b ai) D (λj Y _=>Y),?_⟩;rw [d];unfold tv;rw [z];exact X
 ·have hi:i=f.af.length:=ad
  subst hi;rw [bj9] at N ⊢;have hD:((f.af.flatMap (tv of)).foldl jP []).length<=2^40:=by
   have:=wZ (f.af.flatMap (tv of)) []
   simp only [List.length_nil,Nat.zero_add] at this;omega
  refine PU (lv:=1) rfl N hD _ (b23.aj I (by simp; omega)) ?_;intro p' l' c' h9 s9 D;exact ⟨⟨p',l',c',rfl,s9.mono ad⟩,bS B D⟩
structure TS where
 num:Xaa->Option Nat
 kq:Nat
 low:Xaa->Option Nat
 on:Xaa->Option Bool
 back:Xaa->Option Bool
 dq:List Xaa
def fh (v:Xaa) (st:TS):TS:={ st with num:=dW st.num v (st.kq+1),kq:=st.kq+1,low:=dW st.low v (st.kq+1),dq:=st.dq++[v],on:=dW st.on v true }
def fY (v w:Xaa) (st:TS):TS:=if w=v then { st with back:=dW st.back v true } else st
def M6 (v:Xaa) (n:Nat) (st:TS):TS:={ st with low:=dW st.low v (min ((st.low v).getD 0) n) }
def u7 (iX:Xaa->TS->TS) (v w:Xaa) (st:TS):TS :=
 if (st.num w).getD 0=0 then M6 v (((iX w st).low w).getD 0) (iX w st)
 else if (st.on w).getD false=true then M6 v ((st.num w).getD 0) st
 else st
def fg (own:Xaa->Bool) (iX:Xaa->TS->TS) (v:Xaa) (st:TS) (w:Xaa):TS :=
 if own w=true then u7 iX v w (fY v w st) else st
def qV (rC:Bool) (st:TS) (x:Xaa):TS:={ st with on:=dW st.on x false,back:=dW st.back x ((st.back x).getD false || rC) }
def tq (v:Xaa) (st:TS):Nat:=st.dq.findIdx (λx=>decide (v=x))
def sT (v:Xaa) (st:TS):TS:={ (st.dq.drop (tq v st)).foldl (qV (decide (1<st.dq.length-tq v st))) st with dq:=st.dq.take (tq v st) }
def da (own:Xaa->Bool) (succ:Xaa->List Xaa):Nat->Xaa->TS->TS
 | 0,_,st=>st
 | f+1,v,st =>
  if (((succ v).foldl (fg own (da own succ f) v) (fh v st)).low v).getD 0<(((succ v).foldl (fg own (da own succ f) v) (fh v st)).num v).getD 0 then (succ v).foldl (fg own (da own succ f) v) (fh v st)
  else sT v ((succ v).foldl (fg own (da own succ f) v) (fh v st))
def D3:TS:=⟨λ_=>none,0,λ_=>none,λ_=>none,λ_=>none,[]⟩
def yk (own:Xaa->Bool) (succ:Xaa->List Xaa) (f:Nat) (st:TS) (v:Xaa):TS:=if (st.num v).getD 0=0 then da own succ f v st else st
def IE (own:Xaa->Bool) (succ:Xaa->List Xaa) (names:List Xaa):TS:=names.foldl (yk own succ names.length) D3
def sC (names:List Xaa) (st:TS):Nat:=(names.filter λv=>(st.num v).isNone).length
structure dT (names:List Xaa) (st:TS):Prop where
 sum:st.kq+sC names st=names.length
 pos:∀ s n,st.num s=some n->1<=n
 dq:st.dq.length<=st.kq
 fF:∀ x,x∈st.dq->st.num x≠Option.none
def dT.none {names:List Xaa} {st:TS} (g:dT names st) {w:Xaa} (h:(st.num w).getD 0=0):st.num w=Option.none:=by
 cases a:st.num w with
 | none=>rfl
 | some n =>
  rw [a] at h
  have:=g.pos w n a
  simp at h;omega
def Tv {names:List Xaa} (hn:names.Nodup) {v:Xaa} (hv:v∈names) {f:Xaa->Option Nat} (h0:f v=Option.none) (n:Nat):(names.filter λs=>(dW f v n s).isNone).length+1=(names.filter λs=>(f s).isNone).length:=by
 induction names with
 | nil=>simp at hv
 | cons x l b =>
  obtain ⟨c,hn⟩:=el9.1 hn
  by_cases e:x=v
  ·subst e;have hl:l.filter (λs=>(dW f x n s).isNone)=l.filter (λs=>(f s).isNone):=by
    refine List.filter_congr λs d=>?_
    rw [cn _ _ (λk=>c (by rw [<- k]; exact d))]
   rw [List.filter_cons,List.filter_cons,cK,h0,hl]
   simp
  ·have a:v∈l:=by
    rcases bd9.1 hv with h | h
    ·exact (e h.symm).elim
    ·exact h
   have:=b hn a
   rw [List.filter_cons,List.filter_cons,cn _ _ e];split
   ·simp only [List.length_cons]; omega
   ·exact this
def CL (rC:Bool) (l:List Xaa):∀ st:TS,(l.foldl (qV rC) st).num=st.num/\(l.foldl (qV rC) st).kq=st.kq/\(l.foldl (qV rC) st).low=st.low:=by
 induction l with
 | nil=>intro st; exact ⟨rfl,rfl,rfl⟩
 | cons x l a =>
  intro st;rw [bt9];exact a _
def py (v:Xaa) (st:TS):(sT v st).num=st.num:=(CL _ _ _).1
def Bb (v:Xaa) (st:TS):(sT v st).kq=st.kq:=(CL _ _ _).2.1
def Sz (v:Xaa) (st:TS):(sT v st).low=st.low:=(CL _ _ _).2.2
def xL (v:Xaa) (st:TS):(sT v st).dq=st.dq.take (tq v st):=rfl
def jk (v w:Xaa) (st:TS):(fY v w st).num=st.num/\(fY v w st).kq=st.kq/\(fY v w st).dq=st.dq/\(fY v w st).on=st.on/\(fY v w st).low=st.low:=by
 unfold fY;split <;> exact ⟨rfl,rfl,rfl,rfl,rfl⟩
def dT.self {names:List Xaa} {st:TS} (g:dT names st) (v w:Xaa):dT names (fY v w st):=by
 obtain ⟨h1,h2,a,_⟩:=jk v w st;exact ⟨by unfold sC; rw [h1,h2]; exact g.sum,by rw [h1]; exact g.pos,by rw [h2,a]; exact g.dq,by rw [h1,a]; exact g.fF⟩
def dT.low {names:List Xaa} {st:TS} (g:dT names st) (v:Xaa) (n:Nat):dT names (M6 v n st):=⟨g.sum,g.pos,g.dq,g.fF⟩
def dT.open {names:List Xaa} (hn:names.Nodup) {st:TS} (g:dT names st) {v:Xaa} (hv:v∈names) (h0:st.num v=Option.none):dT names (fh v st)/\sC names (fh v st)+1=sC names st:=by
 have h1:sC names (fh v st)+1=sC names st:=Tv hn hv h0 _;refine ⟨⟨?_,λs n a=>?_,?_,λx b=>?_⟩,h1⟩
 ·have:=g.sum
  show st.kq+1+sC names (fh v st)=_;omega
 ·have a:dW st.num v (st.kq+1) s=some n:=a
  by_cases e:s=v
  ·subst e;rw [cK] at a
   have:=bb9 a
   omega
  ·rw [cn _ _ e] at a;exact g.pos s n a
 ·have:=g.dq
  show (st.dq++[v]).length<=st.kq+1
  simp; omega
 ·have b:x∈st.dq++[v]:=b;show dW st.num v _ x≠Option.none
  by_cases e:x=v
  ·subst e; rw [cK]; simp
  ·rw [cn _ _ e];rcases ar9.1 b with h | h
   ·exact g.fF x h
   ·exact (e (an9.1 h)).elim
def dT.pop {names:List Xaa} {st:TS} (g:dT names st) (v:Xaa):dT names (sT v st) :=
 ⟨by unfold sC; rw [py,Bb]; exact g.sum,by rw [py]; exact g.pos,by rw [xL,Bb,au9]; have:=g.dq; omega,λx a=>by rw [py]; rw [xL] at a; exact g.fF x (cy9 a)⟩
def CY (names:List Xaa) (st a:TS):Prop:=dT names a/\(∀ s n,st.num s=some n->a.num s=some n)/\st.dq <+: a.dq
def CY.sC {names:List Xaa} {st a:TS} (h:CY names st a):sC names a<=sC names st:=by
 unfold Sx.sC;rw [<- List.countP_eq_length_filter,<- List.countP_eq_length_filter];refine List.countP_mono_left λx c h'=>?_
 cases b:st.num x with
 | none=>rfl
 | some n=>rw [h.2.1 x n b] at h'; simp at h'
def CY.trans {names:List Xaa} {a b c:TS} (h:CY names a b) (k:CY names b c):CY names a c:=⟨k.1,λs n d=>k.2.1 s n (h.2.1 s n d),h.2.2.trans k.2.2⟩
def CY.refl {names:List Xaa} {a:TS} (h:dT names a):CY names a a:=⟨h,λs n b=>b,ew9 _⟩
def Q1 {names:List Xaa} {iX:Xaa->TS->TS} (a:∀ Y st,dT names st->Y∈names->st.num Y=Option.none->Sx.sC names st<=H->CY names st (iX Y st)) {v:Xaa} {st:TS} (g:dT names st) (b:Y∈names) (c:Sx.sC names st<=H):CY names st (u7 iX v Y st):=by
 unfold u7;split
 ·rename_i h0;have h:=a Y st g b (g.none h0) c;exact ⟨h.1.low v _,h.2.1,h.2.2⟩
 ·split
  ·exact ⟨g.low v _,λs n d=>d,ew9 _⟩
  ·exact CY.refl g
def Hj {names:List Xaa} {own:Xaa->Bool} (a:∀ s,own s=true->s∈names) {iX:Xaa->TS->TS} (b:∀ w st,dT names st->w∈names->st.num w=Option.none->Sx.sC names st<=H->CY names st (iX w st)) {v w:Xaa} {st:TS} (g:dT names st) (c:Sx.sC names st<=H):CY names st (fg own iX v st w):=by
 unfold fg;split
 ·rename_i d;have h1:CY names st (fY v w st):=⟨g.self v w,λs n e=>by rw [(jk v w st).1]; exact e,by rw [(jk v w st).2.2.1]; exact ew9 _⟩
  exact h1.trans (Q1 b (g.self v w) (a w d) (cd9 h1.sC c))
 ·exact CY.refl g
theorem Cd {names:List Xaa} {own:Xaa->Bool} (a:∀ s,own s=true->s∈names) {iX:Xaa->TS->TS} {f:Nat} (b:∀ w st,dT names st->w∈names->st.num w=Option.none->Sx.sC names st<=f->CY names st (iX w st)) (v:Xaa):∀ (l:List Xaa) (st:TS),dT names st->Sx.sC names st<=f->CY names st (l.foldl (fg own iX v) st)
 | [],st,g,c=>CY.refl g
 | w::l,st,g,c=>by
  have h1:=Hj a b (v:=v) (w:=w) g c;rw [bt9];exact h1.trans (Cd a b v l _ h1.1 (cd9 h1.sC c))
def KC {a b:List Xaa} {v:Xaa} (h:a++[v] <+: b) (hv:v∉a) {st:TS} (c:st.dq=b):tq v st=a.length/\b.take a.length=a/\a.length<b.length:=by
 obtain ⟨t,rfl⟩:=h;unfold tq;rw [c];refine ⟨?_,ai,ai⟩;rw [az9,List.findIdx_append,ac9 ?_]
 ·simp [List.findIdx_cons]
 ·rw [List.findIdx_lt_length];rintro ⟨x,d,e⟩;exact hv (by rw [ai9 e]; exact d)
def dT.Z5 {names:List Xaa} {st:TS} (g:dT names st) {v:Xaa} (h0:st.num v=Option.none):v∉st.dq:=λhv=>g.fF v hv h0
def Qz {names:List Xaa} (hn:names.Nodup) {v:Xaa} {st:TS} (g:dT names st) (hv:v∈names) (h0:st.num v=Option.none):CY names st (fh v st) :=
 ⟨(g.open hn hv h0).1,λs n a=>by
   show dW st.num v _ s=some n;rw [cn _ _ (λe=>by rw [e,h0] at a; cases a)];exact a,⟨[v],rfl⟩⟩
theorem uz {names:List Xaa} (hn:names.Nodup) {own:Xaa->Bool} (b:∀ s,own s=true->s∈names) (succ:Xaa->List Xaa):∀ (f:Nat) (v:Xaa) (st:TS),dT names st->v∈names->st.num v=Option.none->Sx.sC names st<=f->CY names st (da own succ f v st)
 | 0,v,st,g,hv,h0,c=>CY.refl g
 | f+1,v,st,g,hv,h0,c=>by
  obtain ⟨d,e⟩:=g.open hn hv h0;have h2:=Cd b (uz hn b succ f) v (succ v) _ d ad;have h3:=(Qz hn g hv h0).trans h2;unfold da;split
  ·exact h3
  ·refine ⟨h3.1.pop v,λs n h=>by rw [py]; exact h3.2.1 s n h,?_⟩;obtain ⟨i,j,_⟩:=KC (a:=st.dq) (v:=v) h2.2.2 (g.Z5 h0) rfl;rw [xL,i,j];exact ew9 _
def NR {names:List Xaa} (hn:names.Nodup) {own:Xaa->Bool} (a:∀ s,own s=true->s∈names) (succ:Xaa->List Xaa) {v:Xaa} {st:TS} (g:dT names st) (hv:v∈names) (h0:st.num v=Option.none) (d:Sx.sC names st<=H+1) (l:List Xaa) :
  dT names (l.foldl (fg own (da own succ H) v) (fh v st))/\Sx.sC names (l.foldl (fg own (da own succ H) v) (fh v st))<=H/\st.dq++[v] <+: (l.foldl (fg own (da own succ H) v) (fh v st)).dq/\∃ n,(l.foldl (fg own (da own succ H) v) (fh v st)).num v=some n:=by
 obtain ⟨b,c⟩:=g.open hn hv h0;have h2:=Cd a (uz hn a succ H) v l _ b ad;exact ⟨h2.1,by have:=h2.sC; omega,h2.2.2,_,h2.2.1 v (st.kq+1) (cK _ _ _)⟩
def Zy (names:List Xaa):dT names D3:=⟨by unfold sC D3; simp,λs n a=>(by cases a),by simp [D3],by simp [D3]⟩
section
variable {E:Xaa->Xaa->Prop}
inductive rh (E:Xaa->Xaa->Prop):Xaa->Xaa->Prop
 | refl (a:Xaa):rh E a a
 | head {a b c:Xaa}:E a b->rh E b c->rh E a c
def rh.trans {a b c:Xaa} (h:rh E a b) (k:rh E b c):rh E a c:=by
 induction h with
 | refl=>exact k
 | head e _ d=>exact .head e (d k)
def rh.one {a b:Xaa} (h:E a b):rh E a b:=.head h (.refl b)
def lK (E:Xaa->Xaa->Prop) (v:Xaa):Prop:=∃ y,E v y/\rh E y v
def lK.of {a b:Xaa} (h:rh E a b) (k:rh E b a) (c:a≠b):lK E a:=by
 cases h with
 | refl=>exact (c rfl).elim
 | head e r=>exact ⟨_,e,r.trans k⟩
structure Inv (E:Xaa->Xaa->Prop) (G:List Xaa) (st:TS):Prop where
 le:∀ s n,st.num s=some n->1<=n/\n<=st.kq
 dq:∀ x,x∈st.dq->st.num x≠none
 on:∀ x,(st.on x).getD false=true↔x∈st.dq
 gr:∀ g,g∈G->g∈st.dq
 cl:∀ x,st.num x≠none->x∉st.dq->∀ y,E x y->st.num y≠none/\y∉st.dq
 bl:∀ x,st.num x≠none->x∉G->∀ y,E x y->st.num y≠none
 rg:∀ x,x∈st.dq->∃ g,g∈G/\rh E x g
 b0:∀ x,st.num x=none->(st.back x).getD false=false
 bc:∀ x,st.num x≠none->x∉st.dq->((st.back x).getD false=true↔lK E x)
 bw:∀ x,x∈st.dq->(st.back x).getD false=true->E x x
 bb:∀ x,x∈st.dq->x∉G->E x x->(st.back x).getD false=true
def Inv.low {G:List Xaa} {st:TS} (i:Inv E G st) (v:Xaa) (n:Nat):Inv E G (M6 v n st):=⟨i.le,i.dq,i.on,i.gr,i.cl,i.bl,i.rg,i.b0,i.bc,i.bw,i.bb⟩
def Inv.Xt {G:List Xaa} {st:TS} (i:Inv E G st) {x y:Xaa} (h:rh E x y):st.num x≠none->x∉st.dq->st.num y≠none/\y∉st.dq:=by
 induction h with
 | refl=>exact λh k=>⟨h,k⟩
 | head e _ a=>intro h k; obtain ⟨h2,b⟩:=i.cl _ h k _ e; exact a h2 b
def Inv.self {G:List Xaa} {st:TS} (i:Inv E G st) {v w:Xaa} (hv:v∈G) (g:w=v->E v v):Inv E G (fY v w st):=by
 unfold fY;split
 ·rename_i h;have hw:=i.gr v hv;have hn:=i.dq v hw;refine ⟨i.le,i.dq,i.on,i.gr,i.cl,i.bl,i.rg,λx b=>?_,λx b c=>?_,λx b d=>?_,λx b f j=>?_⟩
  ·have a:x≠v:=λe=>hn (by rw [<- e]; exact b)
   show (dW st.back v true x).getD false=false;rw [cn _ _ a]; exact i.b0 x b
  ·have a:x≠v:=λe=>c (by rw [e]; exact hw)
   show (dW st.back v true x).getD false=true↔_;rw [cn _ _ a]; exact i.bc x b c
  ·by_cases e:x=v
   ·subst e; exact g h
   ·have d:(dW st.back v true x).getD false=true:=d;rw [cn _ _ e] at d; exact i.bw x b d
  ·have a:x≠v:=λe=>f (by rw [e]; exact hv)
   show (dW st.back v true x).getD false=true;rw [cn _ _ a]; exact i.bb x b f j
 ·exact i
def Inv.open {G:List Xaa} {st:TS} (i:Inv E G st) {v:Xaa} (h0:st.num v=none):Inv E (v::G) (fh v st):=by
 have q:v∉st.dq:=λh=>i.dq v h h0
 have a:∀ {x},x≠v->(fh v st).num x=st.num x:=λh=>cn _ _ h
 have mono:∀ {x},st.num x≠none->(fh v st).num x≠none:=by
  intro x h;rw [a (λe=>h (by rw [e]; exact h0))]; exact h
 refine ⟨λs n f=>?_,λx b=>?_,λx=>?_,λg j=>?_,λx b c y o=>?_,λx b m y o=>?_,λx b=>?_,λx b=>?_,λx b c=>?_,λx b l=>?_,λx b j p=>?_⟩
 ·show 1<=n/\n<=st.kq+1
  by_cases e:s=v
  ·subst e;have f:dW st.num s (st.kq+1) s=some n:=f;rw [cK] at f
   have:=bb9 f
   omega
  ·rw [a e] at f
   have:=i.le s n f
   omega
 ·rcases ar9.1 (show x∈st.dq++[v] from b) with h | h
  ·exact mono (i.dq x h)
  ·rw [an9.1 h];show dW st.num v _ v≠none;rw [cK]; simp
 ·show (dW st.on v true x).getD false=true↔x∈st.dq++[v]
  by_cases e:x=v
  ·subst e; rw [cK]; simp
  ·rw [cn _ _ e,i.on x]; simp [e]
 ·show g∈st.dq++[v];rcases bd9.1 j with h | h
  ·simp [h]
  ·exact be9 _ (i.gr g h)
 ·have c:x∉st.dq++[v]:=c;have d:x≠v:=λe=>c (by simp [e])
  rw [a d] at b;obtain ⟨h1,h2⟩:=i.cl x b (λh=>c (be9 _ h)) y o;refine ⟨mono h1,?_⟩;show y∉st.dq++[v];intro h;rcases ar9.1 h with h | h
  ·exact h2 h
  ·exact h1 (by rw [an9.1 h]; exact h0)
 ·have d:x≠v:=λe=>m (by simp [e])
  rw [a d] at b;exact mono (i.bl x b (λh=>m (aq9 _ h)) y o)
 ·rcases ar9.1 (show x∈st.dq++[v] from b) with h | h
  ·obtain ⟨g,j,r⟩:=i.rg x h;exact ⟨g,aq9 _ j,r⟩
  ·rw [an9.1 h];exact ⟨v,ai,.refl v⟩
 ·have d:x≠v:=by
   intro e;subst e;have b:dW st.num x _ x=none:=b;rw [cK] at b; cases b
  rw [a d] at b;exact i.b0 x b
 ·have c:x∉st.dq++[v]:=c;have d:x≠v:=λe=>c (by simp [e])
  rw [a d] at b;exact i.bc x b (λh=>c (be9 _ h))
 ·rcases ar9.1 (show x∈st.dq++[v] from b) with h | h
  ·exact i.bw x h l
  ·rw [an9.1 h] at l;have l:(st.back v).getD false=true:=l;rw [i.b0 v h0] at l; cases l
 ·have d:x≠v:=λe=>j (by simp [e])
  rcases ar9.1 (show x∈st.dq++[v] from b) with h | h
  ·exact i.bb x h (λk=>j (aq9 _ k)) p
  ·exact (d (an9.1 h)).elim
def wz (st:TS) (v:Xaa):Nat:=(st.low v).getD 0
def um (st:TS) (v:Xaa):Nat:=(st.num v).getD 0
def V2 (s0 st:TS):Prop:=∀ s,s0.num s≠none->st.num s=s0.num s/\st.low s=s0.low s/\st.back s=s0.back s
def ZV (s0 st:TS):Prop:=∀ s n,s0.num s=none->st.num s=some n->s0.kq<n
def Xf (E:Xaa->Xaa->Prop) (v:Xaa) (s0 st:TS) (x:Xaa):Prop:=s0.num x=none/\rh E v x/\∀ y,E x y->y∈s0.dq->wz st v<=um st y
structure pJ (E:Xaa->Xaa->Prop) (G:List Xaa) (v:Xaa) (s0 st:TS):Prop where
 inv:Inv E G st
 old:V2 s0 st
 kq:s0.kq<=st.kq
 new:ZV s0 st
 num:∃ n,st.num v=some n
 dq:∃ X,st.dq=s0.dq++X/\∀ x,x∈X->Xf E v s0 st x
 low:wz st v<um st v->∃ y,y∈s0.dq/\rh E v y/\st.num y=some (wz st v)
structure IH (E:Xaa->Xaa->Prop) (own:Xaa->Bool) (G:List Xaa) (v:Xaa) (P:List Xaa) (s0 st:TS):Prop where
 inv:Inv E (v::G) st
 old:V2 s0 st
 kq:s0.kq<=st.kq
 new:ZV s0 st
 num:st.num v=some (s0.kq+1)
 dq:∃ X,st.dq=s0.dq++v::X/\∀ x,x∈X->x≠v/\Xf E v s0 st x
 low:wz st v<s0.kq+1->∃ y,y∈s0.dq/\rh E v y/\st.num y=some (wz st v)
 iX:∀ w,w∈P->own w=true->st.num w≠none/\(w∈s0.dq->wz st v<=um st w)/\(w=v->(st.back v).getD false=true)
def IH.start {own:Xaa->Bool} {G:List Xaa} {v:Xaa} {s0:TS} (i:Inv E G s0) (h0:s0.num v=none):IH E own G v [] s0 (fh v s0):=by
 refine ⟨i.open h0,λs b=>?_,Nat.le_succ _,λs n b hn=>?_,cK _ _ _,⟨[],rfl,λx c=>by simp at c⟩,λhl=>?_,λw d=>by simp at d⟩
 ·have a:s≠v:=λe=>b (by rw [e]; exact h0)
  exact ⟨cn _ _ a,cn _ _ a,rfl⟩
 ·by_cases e:s=v
  ·subst e;have hn:dW s0.num s (s0.kq+1) s=some n:=hn;rw [cK] at hn
   have:=bb9 hn
   omega
  ·have hn:dW s0.num v (s0.kq+1) s=some n:=hn;rw [cn _ _ e,b] at hn; cases hn
 ·have hl:(dW s0.low v (s0.kq+1) v).getD 0<s0.kq+1:=hl;rw [cK] at hl;simp at hl
def IH.self {own:Xaa->Bool} {G:List Xaa} {v w:Xaa} {P:List Xaa} {s0 st:TS} (m:IH E own G v P s0 st) (h0:s0.num v=none) (o:w=v->E v v) :
  IH E own G v P s0 (fY v w st)/\(w=v->((fY v w st).back v).getD false=true):=by
 obtain ⟨d,p,q,B,i⟩:=jk v w st;have r:∀ s,s≠v->(fY v w st).back s=st.back s:=by
  intro s f;unfold fY;split
  ·exact cn _ _ f
  ·rfl
 have j:w=v->((fY v w st).back v).getD false=true:=by
  intro e;unfold fY;rw [ag9 e];show (dW st.back v true v).getD false=true;rw [cK]; rfl
 have g:(st.back v).getD false=true->((fY v w st).back v).getD false=true:=by
  intro h;unfold fY;split
  ·show (dW st.back v true v).getD false=true;rw [cK]; rfl
  ·exact h
 refine ⟨⟨m.inv.self ai o,λs f=>?_,by rw [p]; exact m.kq,λs n f hn=>by rw [d] at hn; exact m.new s n f hn,by rw [d]; exact m.num,?_,?_,λu t y=>?_⟩,j⟩
 ·have k:s≠v:=λe=>f (by rw [e]; exact h0)
  rw [d,i,r s k];exact m.old s f
 ·obtain ⟨X,z,A⟩:=m.dq;refine ⟨X,by rw [q]; exact z,λx l=>?_⟩
  have:=A x l
  unfold Xf wz um at *;rw [d,i];exact this
 ·unfold wz;rw [d,i];exact m.low
 ·obtain ⟨a,b,c⟩:=m.iX u t y;unfold wz um at *;rw [d,i];exact ⟨a,b,λe=>g (c e)⟩
def qG (v:Xaa) (n:Nat) (st:TS):wz (M6 v n st) v=min (wz st v) n:=by
 unfold wz;show (dW st.low v _ v).getD 0=_;rw [cK]; rfl
def IH.rest {own:Xaa->Bool} {G:List Xaa} {v w:Xaa} {P:List Xaa} {s0 st:TS} {iX:Xaa->TS->TS} (i0:Inv E G s0) (m:IH E own G v P s0 st) (h0:s0.num v=none) (V:∀ g,g∈G->rh E g v) (H:E v w)
  (U:w=v->(st.back v).getD false=true) (W:(st.num w).getD 0=0->st.num w=none) (I:st.num w=none->(∀ g,g∈v::G->rh E g w)->pJ E (v::G) w st (iX w st)) :
  IH E own G v (P++[w]) s0 (u7 iX v w st):=by
 obtain ⟨X,F,N⟩:=m.dq;have hv:st.num v≠none:=by rw [m.num]; simp
 have z:∀ s,s0.num s≠none->st.num s≠none:=λs q=>by rw [(m.old s q).1]; exact q
 have i:∀ y,y∈s0.dq->y∈st.dq:=λy l=>by rw [F]; exact be9 _ l
 unfold u7;split
 ·rename_i A;have hw:=W A;have O:w≠v:=λe=>hv (by rw [<- e]; exact hw)
  have p:=I hw (λg Y=>by
   rcases bd9.1 Y with h | h
   ·rw [h]; exact .one H
   ·exact (V g h).trans (.one H))
  generalize iX w st=f at p ⊢;show IH E own G v (P++[w]) s0 (M6 v (wz f w) f);obtain ⟨Z,Q,R⟩:=p.dq;have j:wz f v=wz st v:=by unfold wz; rw [(p.old v hv).2.1]
  have r:f.num v=some (s0.kq+1):=by rw [(p.old v hv).1]; exact m.num
  refine ⟨p.inv.low v _,λs q=>?_,cd9 m.kq p.kq,λs n q hn=>?_,r,⟨X++Z,?_,λx B=>?_⟩,λhl=>?_,λu J K=>?_⟩
  ·have C:s≠v:=λe=>q (by rw [e]; exact h0)
   obtain ⟨a,b,c⟩:=m.old s q;obtain ⟨a2,b2,c2⟩:=p.old s (z s q);refine ⟨a2.trans a,?_,c2.trans c⟩;show dW f.low v _ s=_;rw [cn _ _ C];exact b2.trans b
  ·by_cases h1:st.num s=none
   ·have:=p.new s n h1 hn
    have:=m.kq
    omega
   ·have hn:f.num s=some n:=hn;rw [(p.old s h1).1] at hn;exact m.new s n q hn
  ·show f.dq=_;rw [Q,F,az9,fc9]
  ·rcases ar9.1 B with h | h
   ·obtain ⟨a,b,c,d⟩:=N x h;refine ⟨a,b,c,λy l o=>?_⟩;rw [qG,j]
    have:=d y l o
    have e:um f y=um st y:=by unfold um; rw [(p.old y (m.inv.dq y (i y o))).1]
    show _<=um f y;omega
   ·obtain ⟨b,c,d⟩:=R x h;refine ⟨λe=>hv (by rw [<- e]; exact b),?_,rh.head H c,λy l o=>?_⟩
    ·apply ey9;intro k;exact z x k b
    ·rw [qG]
     have:=d y l (i y o)
     show _<=um f y;omega
  ·rw [qG,j] at hl ⊢;show ∃ y,y∈s0.dq/\rh E v y/\f.num y=_
   by_cases hc:wz st v<=wz f w
   ·rw [cp9 hc] at hl ⊢;obtain ⟨y,l,S,hn⟩:=m.low hl;exact ⟨y,l,S,by rw [(p.old y (m.inv.dq y (i y l))).1]; exact hn⟩
   ·rw [Nat.min_eq_right ad] at hl ⊢;obtain ⟨n,hn⟩:=p.num;have h2:=p.new w n hw hn;have h3:=m.kq;obtain ⟨y,l,S,t⟩:=p.low (by unfold um; rw [hn]; simp; omega);refine ⟨y,?_,rh.head H S,t⟩;rw [F] at l;rcases ar9.1 l with h | h
    ·exact h
    ·rcases bd9.1 h with h | h
     ·rw [h,r] at t
      have:=bb9 t
      omega
     ·have L:st.num y≠none:=m.inv.dq y (by rw [F]; exact bi9 _ (aq9 _ h));rw [(p.old y L).1] at t
      have:=m.new y _ (N y h).2.1 t
      omega
  ·rw [qG,j];rcases ar9.1 J with h | h
   ·obtain ⟨a,b,c⟩:=m.iX u h K;have hn:f.num u=st.num u:=(p.old u a).1;refine ⟨by show f.num u≠none; rw [hn]; exact a,λk=>?_,λk=>?_⟩
    ·have:=b k
     have e:um f u=um st u:=by unfold um; rw [hn]
     show _<=um f u;omega
    ·show (f.back v).getD false=true;rw [(p.old v hv).2.2];exact c k
   ·have h:=an9.1 h;subst h;obtain ⟨n,hn⟩:=p.num;exact ⟨by show f.num u≠none; rw [hn]; simp,λk=>(m.inv.dq u (i u k) hw).elim,λk=>(O k).elim⟩
 ·rename_i A;have hw:st.num w≠none:=λe=>A (by rw [e]; rfl)
  obtain ⟨n,hn⟩:=Option.ne_none_iff_exists'.1 hw;split
  ·rename_i D;have hwy:=(m.inv.on w).1 D;have M:(st.num w).getD 0=n:=by rw [hn]; rfl
   rw [M];refine ⟨m.inv.low v _,λs q=>?_,m.kq,m.new,m.num,⟨X,F,λx B=>?_⟩,λhl=>?_,λu J K=>?_⟩
   ·have C:s≠v:=λe=>q (by rw [e]; exact h0)
    obtain ⟨a,b,c⟩:=m.old s q;refine ⟨a,?_,c⟩;show dW st.low v _ s=_;rw [cn _ _ C];exact b
   ·obtain ⟨a,b,c,d⟩:=N x B;refine ⟨a,b,c,λy l o=>?_⟩;rw [qG]
    have:=d y l o
    show _<=um st y;omega
   ·rw [qG] at hl ⊢;show ∃ y,y∈s0.dq/\rh E v y/\st.num y=_
    by_cases hc:wz st v<=n
    ·rw [cp9 hc] at hl ⊢;exact m.low hl
    ·rw [Nat.min_eq_right ad] at hl ⊢;refine ⟨w,?_,.one H,hn⟩;rw [F] at hwy;rcases ar9.1 hwy with h | h
     ·exact h
     ·rcases bd9.1 h with h | h
      ·rw [h,m.num] at hn
       have:=bb9 hn
       omega
      ·have:=m.new w _ (N w h).2.1 hn
       omega
   ·rw [qG];rcases ar9.1 J with h | h
    ·obtain ⟨a,b,c⟩:=m.iX u h K;refine ⟨a,λk=>?_,c⟩
     have:=b k
     show _<=um st u;omega
    ·have h:=an9.1 h;subst h;refine ⟨hw,λk=>?_,U⟩;show _<=(st.num u).getD 0;rw [M];omega
  ·rename_i D;refine ⟨m.inv,m.old,m.kq,m.new,m.num,m.dq,m.low,λu J K=>?_⟩;rcases ar9.1 J with h | h
   ·exact m.iX u h K
   ·have h:=an9.1 h;subst h;exact ⟨hw,λk=>(D ((m.inv.on u).2 (i u k))).elim,U⟩
def IH.Yd {own:Xaa->Bool} {succ:Xaa->List Xaa} {G:List Xaa} {v:Xaa} {s0 st:TS} (A:∀ a b,E a b↔b∈succ a/\own b=true) (i0:Inv E G s0) (m:IH E own G v (succ v) s0 st) (hl:wz st v<um st v):pJ E G v s0 st:=by
 obtain ⟨X,C,D⟩:=m.dq;have F:um st v=s0.kq+1:=by unfold um; rw [m.num]; rfl
 have i:=m.inv;have H:v∈st.dq:=i.gr v ai;have iX:∀ y,E v y->st.num y≠none/\(y∈s0.dq->wz st v<=um st y)/\(y=v->(st.back v).getD false=true):=λy c=>m.iX y ((A v y).1 c).1 ((A v y).1 c).2
 obtain ⟨B,j,k,o⟩:=m.low ad;obtain ⟨I,p,q⟩:=i0.rg B j;refine ⟨⟨i.le,i.dq,i.on,λg s=>i.gr g (aq9 _ s),i.cl,λx t d y c=>?_,λx f=>?_,i.b0,i.bc,i.bw,λx f d l=>?_⟩,m.old,m.kq,m.new,⟨_,m.num⟩,⟨v::X,C,λx u=>?_⟩,λ_=>⟨B,j,k,o⟩⟩
 ·by_cases e:x=v
  ·subst e; exact (iX y c).1
  ·exact i.bl x t (by simp [e,d]) y c
 ·obtain ⟨g,s,r⟩:=i.rg x f;rcases bd9.1 s with h | h
  ·rw [h] at r;exact ⟨I,p,(r.trans k).trans q⟩
  ·exact ⟨g,h,r⟩
 ·by_cases e:x=v
  ·subst e; exact (iX x l).2.2 rfl
  ·exact i.bb x f (by simp [e,d]) l
 ·rcases bd9.1 u with h | h
  ·subst h;refine ⟨?_,.refl x,λy c w=>(iX y c).2.1 w⟩;cases z:s0.num x with
   | none=>rfl
   | some n =>
    have h1:=(m.old x (by rw [z]; simp)).1;rw [z,m.num] at h1
    have:=bb9 h1
    have:=(i0.le x n z).2
    omega
  ·exact (D x h).2
open Classical in
def Xl (rC:Bool) (x:Xaa) (l:List Xaa):∀ st:TS,((l.foldl (qV rC) st).on x).getD false=(if x∈l then false else (st.on x).getD false)/\((l.foldl (qV rC) st).back x).getD false=(if x∈l then ((st.back x).getD false || rC) else (st.back x).getD false)/\(x∉l->(l.foldl (qV rC) st).back x=st.back x):=by
 induction l with
 | nil=>intro st; simp
 | cons y l g =>
  intro st;rw [bt9];obtain ⟨a,b,c⟩:=g (qV rC st y);rw [a,b]
  by_cases e:x=y
  ·subst e;have f:((qV rC st x).on x)=some false:=cK _ _ _;have d:((qV rC st x).back x)=some ((st.back x).getD false || rC):=cK _ _ _;rw [f,d];refine ⟨ai,by by_cases i:x∈l <;> simp [i],λh=>(h ai).elim⟩
  ·have f:((qV rC st y).on x)=st.on x:=cn _ _ e;have d:((qV rC st y).back x)=st.back x:=cn _ _ e;rw [f,d];refine ⟨by simp [e],by simp [e],λh=>?_⟩;rw [c (λk=>h (aq9 _ k)),d]
open Classical in
def IH.YK {own:Xaa->Bool} {succ:Xaa->List Xaa} {G:List Xaa} {v:Xaa} {s0 st:TS} (Z:∀ a b,E a b↔b∈succ a/\own b=true) (i0:Inv E G s0) (m:IH E own G v (succ v) s0 st) (h0:s0.num v=none) (hG:∀ g,g∈G->rh E g v) (hl:¬ wz st v<um st v):pJ E G v s0 (sT v st):=by
 obtain ⟨X,P,L⟩:=m.dq;have hnv:um st v=s0.kq+1:=by unfold um; rw [m.num]; rfl
 have i:=m.inv;have M:v∈st.dq:=i.gr v ai;have iX:∀ y,E v y->st.num y≠none/\(y∈s0.dq->wz st v<=um st y)/\(y=v->(st.back v).getD false=true):=λy p=>m.iX y ((Z v y).1 p).1 ((Z v y).1 p).2
 have et:v∉s0.dq:=λh=>i0.dq v h h0
 obtain ⟨e1,e2,e3⟩:=KC (a:=s0.dq) (v:=v) (b:=st.dq) ⟨X,by rw [P]; simp⟩ et rfl;have o:st.dq.drop (tq v st)=v::X:=by rw [e1,P]; simp
 have w:decide (1<st.dq.length-tq v st)=decide (1<(v::X).length):=by rw [<- o,bs9]
 have j:(sT v st).dq=s0.dq:=by rw [xL,e1,e2]
 have hnum:=py v st;have hlow:=Sz v st;have hcnt:=Bb v st;have hoff:=λx=>Xl (decide (1<(v::X).length)) x (v::X) st
 have Q:∀ x,((sT v st).on x).getD false=(if x∈v::X then false else (st.on x).getD false):=by
  intro x;rw [<- (hoff x).1];unfold sT;rw [o,w]
 have B:∀ x,((sT v st).back x).getD false=(if x∈v::X then ((st.back x).getD false || decide (1<(v::X).length)) else (st.back x).getD false):=by
  intro x;rw [<- (hoff x).2.1];unfold sT;rw [o,w]
 have R:∀ x,x∉v::X->(sT v st).back x=st.back x:=by
  intro x hh;rw [<- (hoff x).2.2 hh];unfold sT;rw [o,w]
 have C:∀ x,x∈v::X->s0.num x=none:=by
  intro x h;rcases bd9.1 h with h | h
  ·rw [h]; exact h0
  ·exact (L x h).2.1
 have A:∀ x,x∈s0.dq->x∉v::X:=λx h k=>i0.dq x h (C x k)
 have f:∀ x,x∈st.dq↔x∈s0.dq\/x∈v::X:=λx=>by rw [P]; exact ar9
 have t:∀ y,y∈s0.dq->¬ wz st v<=um st y:=by
  intro y p;obtain ⟨n,hn⟩:=Option.ne_none_iff_exists'.1 (i0.dq y p)
  have:=(i0.le y n hn).2
  have e:um st y=n:=by unfold um; rw [(m.old y (i0.dq y p)).1,hn]; rfl
  omega
 have D:∀ x,st.num x≠none->x∉G->∀ y,E x y->st.num y≠none:=by
  intro x l q y p
  by_cases e:x=v
  ·subst e; exact (iX y p).1
  ·exact i.bl x l (by simp [e,q]) y p
 have N:∀ x,x∈st.dq->rh E x v:=by
  intro x h;obtain ⟨g,S,r⟩:=i.rg x h;rcases bd9.1 S with h | h
  ·rw [h] at r; exact r
  ·exact r.trans (hG g h)
 refine ⟨⟨λs n F=>?_,λx d=>?_,λx=>?_,λg S=>?_,λx l d y p=>?_,λx l q y p=>?_,λx d=>?_,λx H=>?_,λx l d=>?_,λx d I=>?_,λx d q U=>?_⟩,λs F=>?_,by rw [hcnt]; exact m.kq,λs n F hn=>by rw [hnum] at hn; exact m.new s n F hn,⟨_,by rw [hnum]; exact m.num⟩,⟨[],by rw [j]; simp,λx J=>by simp at J⟩,λt=>?_⟩
 ·rw [hnum] at F; rw [hcnt]; exact i.le s n F
 ·rw [hnum]; rw [j] at d; exact i.dq x ((f x).2 (.inl d))
 ·rw [Q,j]
  by_cases h:x∈v::X
  ·rw [ag9 h];exact ⟨λk=>(by cases k),λk=>(A x k h).elim⟩
  ·rw [ac9 h,i.on x,f];exact ⟨λk=>k.resolve_right h,.inl⟩
 ·rw [j]; exact i0.gr g S
 ·rw [hnum] at l ⊢;rw [j] at d ⊢
  by_cases h:x∈v::X
  ·have q:x∉G:=λk=>d (i0.gr x k)
   refine ⟨D x l q y p,λK=>t y K ?_⟩;rcases bd9.1 h with h | h
   ·subst h; exact (iX y p).2.1 K
   ·exact (L x h).2.2.2 y p K
  ·obtain ⟨a,b⟩:=i.cl x l (λk=>((f x).1 k).elim d h) y p;exact ⟨a,λk=>b ((f y).2 (.inl k))⟩
 ·rw [hnum] at l ⊢;exact D x l q y p
 ·rw [j] at d; exact i0.rg x d
 ·rw [hnum] at H;rw [B,ac9 (λk=>i.dq x ((f x).2 (.inr k)) H)];exact i.b0 x H
 ·rw [hnum] at l;rw [j] at d;rw [B]
  by_cases h:x∈v::X
  ·rw [ag9 h]
   by_cases I:1<(v::X).length
   ·rw [ak9 I,Bool.or_true];refine ⟨λ_=>?_,λ_=>rfl⟩
    by_cases e:x=v
    ·subst e;obtain ⟨z,V⟩:∃ z,z∈X:=by
      cases X with
      | nil=>simp at I
      | cons z X=>exact ⟨z,ai⟩
     exact lK.of (L z V).2.2.1 (N z ((f z).2 (.inr (aq9 _ V)))) (λe=>(L z V).1 e.symm)
    ·have J:x∈X:=(bd9.1 h).resolve_left e;exact lK.of (N x ((f x).2 (.inr h))) (L x J).2.2.1 e
   ·rw [al9 I,Bool.or_false];have W:X=[]:=by
     cases X with
     | nil=>rfl
     | cons z X=>simp at I
    subst W;have e:x=v:=by simpa using h
    subst e;refine ⟨λk=>⟨x,i.bw x M k,.refl x⟩,?_⟩;rintro ⟨u,hu,r⟩;obtain ⟨a,b,c⟩:=iX u hu
    by_cases O:u∈st.dq
    ·rcases (f u).1 O with k | k
     ·exact (t u k (b k)).elim
     ·exact c (by simpa using k)
    ·exact ((i.Xt r a O).2 M).elim
  ·rw [ac9 h];exact i.bc x l (λk=>((f x).1 k).elim d h)
 ·rw [j] at d;rw [B,ac9 (A x d)] at I;exact i.bw x ((f x).2 (.inl d)) I
 ·rw [j] at d;rw [B,ac9 (A x d)];exact i.bb x ((f x).2 (.inl d)) (λk=>by
   rcases bd9.1 k with k | k
   ·exact et (by rw [<- k]; exact d)
   ·exact q k) U
 ·have Y:s∉v::X:=λk=>F (C s k)
  rw [hnum,hlow,R s Y];exact m.old s F
 ·unfold wz um at t hl;rw [hlow,hnum] at t;exact (hl t).elim
end
section
variable {own:Xaa->Bool} {succ:Xaa->List Xaa} {names:List Xaa}
def Edge (own:Xaa->Bool) (succ:Xaa->List Xaa) (a b:Xaa):Prop:=b∈succ a/\own b=true
theorem H3 (hn:names.Nodup) (a:∀ s,own s=true->s∈names) {f:Nat} (b:∀ (v:Xaa) (G:List Xaa) (st:TS),dT names st->Inv (Edge own succ) G st->v∈names->st.num v=Option.none->Sx.sC names st<=f->(∀ g,g∈G->rh (Edge own succ) g v)->pJ (Edge own succ) G v st (da own succ f v st))
  {v:Xaa} {G:List Xaa} {s0:TS} (i0:Inv (Edge own succ) G s0) (h0:s0.num v=Option.none) (o:∀ g,g∈G->rh (Edge own succ) g v) :
  ∀ (l P:List Xaa) (st:TS),(∀ w,w∈l->w∈succ v)->dT names st->Sx.sC names st<=f->IH (Edge own succ) own G v P s0 st->IH (Edge own succ) own G v (P++l) s0 (l.foldl (fg own (da own succ f) v) st)
 | [],P,st,hl,g,c,m=>by simpa using m
 | w::l,P,st,hl,g,c,m=>by
  rw [bt9,show P++w::l=(P++[w])++l from ai];have hok:=Hj a (uz hn a succ f) (v:=v) (w:=w) g c;refine H3 hn a b i0 h0 o l (P++[w]) _ (λu c=>hl u (aq9 _ c)) hok.1 (cd9 hok.sC c) ?_;unfold fg;split
  ·rename_i i;have j:Edge own succ v w:=⟨hl w ai,i⟩
   obtain ⟨p,q⟩:=m.self (w:=w) h0 (λe=>by rw [e] at j; exact j);have g1:=g.self v w;have k:Sx.sC names (fY v w st)<=f:=by unfold Sx.sC; rw [(jk v w st).1]; exact c
   exact p.rest i0 h0 o j q (λr=>g1.none r) (λt n=>b w (v::G) _ g1 p.inv (a w i) t k n)
  ·rename_i i;refine ⟨m.inv,m.old,m.kq,m.new,m.num,m.dq,m.low,λu c d=>?_⟩;rcases ar9.1 c with h | h
   ·exact m.iX u h d
   ·rw [an9.1 h] at d;exact (i d).elim
theorem CE (hn:names.Nodup) (c:∀ s,own s=true->s∈names):∀ (f:Nat) (v:Xaa) (G:List Xaa) (st:TS),dT names st->Inv (Edge own succ) G st->v∈names->st.num v=Option.none->Sx.sC names st<=f->(∀ g,g∈G->rh (Edge own succ) g v)->pJ (Edge own succ) G v st (da own succ f v st)
 | 0,v,G,st,g,i,hv,h0,e,d=>by
  have:=(g.open hn hv h0).2
  omega
 | f+1,v,G,st,g,i,hv,h0,e,d=>by
  obtain ⟨j,k⟩:=g.open hn hv h0;have m:=H3 hn c (CE hn c f) i h0 d (succ v) [] _ (λ_ h=>h) j ad (IH.start i h0);rw [cw9] at m;unfold da;split
  ·rename_i hl;exact m.Yd (λa b=>Iff.rfl) i hl
  ·rename_i hl;exact m.YK (λa b=>Iff.rfl) i h0 d hl
def aav (E:Xaa->Xaa->Prop):Inv E [] D3:=by
 refine ⟨λs n b=>(by cases b),λx a=>by simp [D3] at a,λx=>by simp [D3],λg c=>by simp at c,λx a=>(a rfl).elim,λx a=>(a rfl).elim,λx a=>by simp [D3] at a,λx a=>rfl,λx a=>(a rfl).elim,λx a=>by simp [D3] at a,λx a=>by simp [D3] at a⟩
structure Yy (own:Xaa->Bool) (succ:Xaa->List Xaa) (names:List Xaa) (P:List Xaa) (st:TS):Prop where
 qz:dT names st
 inv:Inv (Edge own succ) [] st
 dq:st.dq=[]
 iX:∀ s,s∈P->st.num s≠Option.none
def OY (hn:names.Nodup) (a:∀ s,own s=true->s∈names) {P:List Xaa} {st:TS} (t:Yy own succ names P st) {v:Xaa} (hv:v∈names):Yy own succ names (P++[v]) (yk own succ names.length st v):=by
 have d:Sx.sC names st<=names.length:=dr9 _ _;unfold yk;split
 ·rename_i h;have h0:=t.qz.none h;have p:=CE hn a names.length v [] st t.qz t.inv hv h0 d (λg b=>by simp at b);have k:=uz hn a succ names.length v st t.qz hv h0 d;refine ⟨k.1,p.inv,?_,λs c=>?_⟩
  ·cases f:(da own succ names.length v st).dq with
   | nil=>rfl
   | cons x l =>
    obtain ⟨g,b,_⟩:=p.inv.rg x (by rw [f]; simp);simp at b
  ·rcases ar9.1 c with h | h
   ·rw [(p.old s (t.iX s h)).1]; exact t.iX s h
   ·rw [an9.1 h];obtain ⟨n,hn⟩:=p.num;rw [hn]; simp
 ·rename_i h;refine ⟨t.qz,t.inv,t.dq,λs c=>?_⟩;rcases ar9.1 c with k | k
  ·exact t.iX s k
  ·rw [an9.1 k];intro e;exact h (by rw [e]; rfl)
def ZS (names:List Xaa):Yy own succ names [] D3:=⟨Zy names,aav _,rfl,λs a=>by simp at a⟩
theorem ED (hn:names.Nodup) (a:∀ s,own s=true->s∈names):∀ (l P:List Xaa) (st:TS),(∀ s,s∈l->s∈names)->Yy own succ names P st->Yy own succ names (P++l) (l.foldl (yk own succ names.length) st)
 | [],P,st,hl,t=>by simpa using t
 | w::l,P,st,hl,t=>by
  rw [bt9,show P++w::l=(P++[w])++l from ai];exact ED hn a l _ _ (λs b=>hl s (aq9 _ b)) (OY hn a t (hl w ai))
def lK.VC {v:Xaa} (h:lK (Edge own succ) v):own v=true:=by
 obtain ⟨y,e,r⟩:=h;have c:∀ a b,rh (Edge own succ) a b->own a=true->own b=true:=by
  intro a b r
  induction r with
  | refl=>exact id
  | head e _ d=>exact λ_=>d e.2
 exact c _ _ r e.2
def J3 (hn:names.Nodup) (a:∀ s,own s=true->s∈names) (s:Xaa):((IE own succ names).back s).getD false=true↔lK (Edge own succ) s:=by
 have t:Yy own succ names ([]++names) (IE own succ names):=ED hn a names [] D3 (λ_ h=>h) (ZS names);rw [cw9] at t
 by_cases h:(IE own succ names).num s=Option.none
 ·rw [t.inv.b0 s h];refine ⟨λk=>(by cases k),λk=>?_⟩;exact (t.iX s (a s k.VC) h).elim
 ·exact t.inv.bc s h (by rw [t.dq]; simp)
end
theorem kJ {α:Type} [DecidableEq α]:∀ (l m:List α),l.Nodup->(∀ x,x∈l->x∈m)->l.length<=m.length
 | [],m,_,_=>ai
 | x::l,m,hn,a=>by
  obtain ⟨h1,h2⟩:=el9.1 hn;have hx:=a x ai
  have:=kJ l (m.erase x) h2 (λy b=>(List.mem_erase_of_ne (λe=>h1 (by rw [<- e]; exact b))).2 (a y (aq9 _ b)))
  rw [List.length_erase_of_mem hx] at this;have hp:=List.length_pos_of_mem hx;simp only [List.length_cons];omega
def re {of a:Xaa->Option bK} {x:bK} (h:∀ t,t∈x.af->of t.1=a t.1):dB of x=dB a x:=by
 have h1:x.af.flatMap (tv of)=x.af.flatMap (tv a):=by
  have:∀ l:dr,(∀ t,t∈l->of t.1=a t.1)->l.flatMap (tv of)=l.flatMap (tv a):=by
   intro l
   induction l with
   | nil=>intro _; rfl
   | cons t l b =>
    intro hl;rw [cf9,cf9,b (λu c=>hl u (aq9 _ c))]
    congr 1
    unfold tv;rw [hl t ai]
  exact this _ h
 have h2:x.af.foldl (hZ of) x.num=x.af.foldl (hZ a) x.num:=by
  have:∀ (l:dr) (n:Nat),(∀ t,t∈l->of t.1=a t.1)->l.foldl (hZ of) n=l.foldl (hZ a) n:=by
   intro l
   induction l with
   | nil=>intro n _; rfl
   | cons t l b =>
    intro n hl;rw [bt9,bt9,b _ (λu c=>hl u (aq9 _ c))]
    congr 1
    unfold hZ;rw [hl t ai]
  exact this _ _ h
 unfold dB;rw [h1,h2]
section
variable (own:Xaa->Bool) (lin:Xaa->bK)
def cU:Xaa->List Xaa:=λv=>(lin v).af.map (·.1)
def sB:Nat->Xaa->bK
 | 0,v=>lin v
 | f+1,v=>dB (λs=>if own s=true then some (sB f s) else none) (lin v)
end
def Hg (E:Xaa->Xaa->Prop):Nat->Xaa->Prop
 | 0,_=>False
 | k+1,v=>∀ y,E v y->Hg E k y
theorem RM {E:Xaa->Xaa->Prop} {Q:Xaa->Prop} (h:∀ v,(∀ y,E v y->Q y)->Q v):∀ k v,Hg E k v->Q v
 | 0,v,hv=>hv.elim
 | k+1,v,hv=>h v λy a=>RM h k y (hv y a)
section
variable {own:Xaa->Bool} {lin:Xaa->bK} {names:List Xaa}
def mE {v s:Xaa}:s∈cU lin v↔∃ t,t∈(lin v).af/\t.1=s:=by simp [cU]
theorem zM:∀ (f g:Nat) (v:Xaa),Hg (Edge own (cU lin)) f v->f<=g->sB own lin f v=sB own lin g v
 | 0,g,v,h,_=>h.elim
 | f+1,0,v,h,b=>ad
 | f+1,g+1,v,h,b=>by
  unfold sB;refine re λt ht=>?_
  show (if own t.1=true then some (sB own lin f t.1) else none)=if own t.1=true then some (sB own lin g t.1) else none
  by_cases a:own t.1=true
  ·rw [ag9 a,ag9 a,zM f g t.1 (h t.1 ⟨mE.2 ⟨t,ht,rfl⟩,a⟩) ad]
  ·rw [ac9 a,ac9 a]
def Zj {E:Xaa->Xaa->Prop} (k:∀ a b,E a b->b∈names) (hc:∀ v,¬ lK E v):∀ (f:Nat) (path:List Xaa) (v:Xaa),path.Nodup->(∀ p,p∈path->p∈names)->(∀ p,p∈path->∃ y,E p y/\rh E y v)->v∈names->names.length<=path.length+f->Hg E f v:=by
 have c:∀ (path:List Xaa) (v:Xaa),(∀ p,p∈path->∃ y,E p y/\rh E y v)->v∉path:=λpath v h hv=>hc v (h v hv)
 intro f
 induction f with
 | zero =>
  intro path v hn e d hv hl;have hvp:=c path v d
  have:=kJ (v::path) names (el9.2 ⟨hvp,hn⟩) (λx g=>by
   rcases bd9.1 g with h | h
   ·rw [h]; exact hv
   ·exact e x h)
  simp only [List.length_cons] at this;omega
 | succ f l =>
  intro path v hn e d hv hl y i;have hvp:=c path v d;refine l (v::path) y (el9.2 ⟨hvp,hn⟩) (λx g=>?_) (λp j=>?_) (k v y i) (by simp only [List.length_cons]; omega)
  ·rcases bd9.1 g with h | h
   ·rw [h]; exact hv
   ·exact e x h
  ·rcases bd9.1 j with h | h
   ·rw [h]; exact ⟨y,i,.refl y⟩
   ·obtain ⟨z,m,r⟩:=d p h;exact ⟨z,m,r.trans (.one i)⟩
def K0 (own:Xaa->Bool) (lin:Xaa->bK) (names:List Xaa) (v:Xaa):bK:=sB own lin names.length v
def MA (own:Xaa->Bool) (lin:Xaa->bK) (names:List Xaa) (s:Xaa):Option bK:=if own s=true then some (K0 own lin names s) else none
def J9 (c:∀ s,own s=true↔s∈names) (hc:∀ v,¬ lK (Edge own (cU lin)) v) {v:Xaa} (hv:v∈names):Hg (Edge own (cU lin)) names.length v :=
 Zj (λa b e=>(c b).1 e.2) hc names.length [] v List.nodup_nil (λp d=>by simp at d) (λp d=>by simp at d) hv ai
def Kt (a:∀ s,own s=true↔s∈names) (hc:∀ v,¬ lK (Edge own (cU lin)) v) {v:Xaa} (hv:v∈names):K0 own lin names v=dB (MA own lin names) (lin v):=by
 have hg:=J9 a hc hv;unfold K0;cases c:names.length with
 | zero=>rw [c] at hg; exact hg.elim
 | succ n =>
  rw [c] at hg;unfold sB;refine re λt ht=>?_
  unfold MA K0
  by_cases b:own t.1=true
  ·rw [ag9 b,ag9 b,c,zM n (n+1) t.1 (hg t.1 ⟨mE.2 ⟨t,ht,rfl⟩,b⟩) ad]
  ·rw [ac9 b,ac9 b]
def UF (a:∀ s,own s=true↔s∈names) (hc:∀ v,¬ lK (Edge own (cU lin)) v) {Q:Xaa->Prop} (h:∀ v,(∀ y,Edge own (cU lin) v y->Q y)->Q v) {v:Xaa} (hv:v∈names):Q v :=
 RM h names.length v (J9 a hc hv)
end
variable {i:Xaa × Nat}
def F9 (h:i∈Gf c):∃ p,p∈c/\p.1=i.1:=by
 apply ey9;intro k;have h0:cf c i.1=0:=Ay λp a e=>k ⟨p,a,e⟩
 have h1:=Cu c i.1;rw [h0] at h1;have nf:=BK c;generalize Gf c=m at h h1 nf
 induction m with
 | nil=>simp at h
 | cons p m b =>
  rcases bd9.1 h with h | h
  ·subst h;rw [nf.ot] at h1
   have:=(nf.2 i ai).1
   omega
  ·have hl:=nf.head i h;rw [ft,ac9 (ko hl)] at h1;exact b h ad nf.tail
open Classical in
theorem yg (f:Xaa->Nat) (S:List Xaa) (b:S.Nodup):∀ l:dr,(∀ p,p∈l->p.1∈S)->ik f l=(S.map λs=>cf l s*f s).sum
 | [],_=>by
  have:∀ S:List Xaa,(S.map λs=>cf [] s*f s).sum=0:=by
   intro S
   induction S with
   | nil=>rfl
   | cons s S ih=>rw [bq9,cu9,ih,Bh]; omega
  rw [this]; rfl
 | p::l,h=>by
  have ih:=yg f S b l (λq c=>h q (aq9 _ c));have hp:=h p ai;rw [fz,ih];clear ih h;have a:∀ S:List Xaa,S.Nodup->(S.map λs=>cf (p::l) s*f s).sum=(if p.1∈S then p.2*f p.1 else 0)+(S.map λs=>cf l s*f s).sum:=by
   intro S
   induction S with
   | nil=>intro _; simp
   | cons s S ih =>
    intro hn;obtain ⟨h1,h2⟩:=el9.1 hn;rw [bq9,cu9,bq9,cu9,ih h2,ft]
    by_cases e:p.1=s
    ·subst e;rw [ag9 rfl,ac9 h1,ag9 ai,dd9];omega
    ·have:(p.1∈s::S)↔p.1∈S:=by simp [e]
     rw [ac9 e,by9];simp only [this];omega
  rw [a S b,ag9 hp]
variable {j:Xaa->Nat}
def UH {m:dr} (h:∀ s,cf c s % 4294967296=cf m s % 4294967296):ik j c % 4294967296=ik j m % 4294967296:=by
 obtain ⟨S,a,hl⟩:∃ S:List Xaa,S.Nodup/\∀ p,p∈c++m->p.1∈S:=by
  generalize c++m=w
  induction w with
  | nil=>exact ⟨[],List.nodup_nil,ai⟩
  | cons p w d =>
   obtain ⟨S,a,g⟩:=d
   by_cases b:p.1∈S
   ·refine ⟨S,a,λq e=>?_⟩;rcases bd9.1 e with h | h
    ·rw [h]; exact b
    ·exact g q h
   ·refine ⟨p.1::S,el9.2 ⟨b,a⟩,λq e=>?_⟩;rcases bd9.1 e with h | h
    ·rw [h]; simp
    ·exact aq9 _ (g q h)
 rw [yg j S a c (λp b=>hl p (be9 _ b)),yg j S a m (λp b=>hl p (bi9 _ b))];clear a hl
 induction S with
 | nil=>rfl
 | cons s S d =>
  rw [bq9,cu9,bq9,cu9,eq9,d,ft9,h s,<- ft9,<- eq9]
def Qj (f:Xaa->Nat) (l:dr):ik f (Gf l) % 4294967296=ik f l % 4294967296:=UH λs=>by rw [Cu,gc9]
def kg (f:Xaa->Nat) (x:bK):Nat:=(x.num+ik f x.af) % 4294967296
def GZ (f:Xaa->Nat) (l m:dr):ik f (l++m)=ik f l+ik f m:=by
 induction l with
 | nil=>simp [ik]
 | cons p l a=>rw [fc9,fz,fz,a]; omega
def IS (f:Xaa->Nat) (n:Nat) (l:dr):ik f (l.map λu=>(u.1,n*u.2 % 4294967296)) % 4294967296=n*ik f l % 4294967296:=by
 induction l with
 | nil=>simp [ik]
 | cons p l d =>
  rw [bq9,fz,fz,eq9,d,c,<- eq9,Nat.mul_add,Nat.mul_assoc]
where
 c {a b:Nat}:a % 4294967296*b % 4294967296=a*b % 4294967296:=QN a b
def O0 {g:Xaa->Nat} {of:Xaa->Option bK} (h:∀ s,g s % 4294967296=(match of s with | none=>j s | some y=>kg j y) % 4294967296) (x:bK):kg j (dB of x)=kg g x:=by
 unfold kg dB;show ((x.af.foldl (hZ of) x.num)+ik j (Gf (x.af.flatMap (tv of)))) % 4294967296=(x.num+ik g x.af) % 4294967296;rw [eq9,Qj,<- eq9];generalize x.num=n;generalize x.af=l
 induction l generalizing n with
 | nil=>simp [ik]
 | cons t l b =>
  rw [bt9,cf9,GZ,fz];have c:(l.foldl (hZ of) (hZ of n t)+(ik j (tv of t)+ik j (l.flatMap (tv of)))) % 4294967296=(ik j (tv of t)+(hZ of n t+ik g l)) % 4294967296:=by
   rw [show l.foldl (hZ of) (hZ of n t)+(ik j (tv of t)+ik j (l.flatMap (tv of)))=ik j (tv of t)+(l.foldl (hZ of) (hZ of n t)+ik j (l.flatMap (tv of))) from ad,eq9,b,<- eq9]
  rw [c];have d:(ik j (tv of t)+hZ of n t) % 4294967296=(n+t.2*g t.1) % 4294967296:=by
   have hg:=h t.1;unfold tv hZ;cases a:of t.1 with
   | none =>
    rw [a] at hg;simp only at hg ⊢;rw [fz]
    have:t.2*j t.1 % 4294967296=t.2*g t.1 % 4294967296:=by rw [ft9,<- hg,<- ft9]
    simp only [ik,Nat.add_zero];omega
   | some y =>
    rw [a] at hg;simp only at hg ⊢;have h1:=IS j t.2 y.af;have h2:t.2*g t.1 % 4294967296=t.2*(y.num+ik j y.af) % 4294967296:=by
     unfold kg at hg;rw [ft9,hg,gc9,<- ft9]
    rw [Nat.mul_add] at h2;omega
  omega
def qC {of:Xaa->Option bK} (h:i∈(dB of f).af):(∃ p,p∈f.af/\p.1=i.1/\of i.1=none)\/∃ p y u,p∈f.af/\of p.1=some y/\u∈y.af/\u.1=i.1:=by
 obtain ⟨p,d,e⟩:=F9 h;obtain ⟨q,c,a⟩:=ff9.1 d;unfold tv at a;cases b:of q.1 with
 | none =>
  rw [b] at a
  have:p=q:=by simpa using a
  subst this;exact .inl ⟨p,c,e,by rw [<- e]; exact b⟩
 | some y =>
  rw [b] at a;obtain ⟨u,g,rfl⟩:=ap9.1 a;exact .inr ⟨q,y,u,c,b,g,e⟩
def eQ (of:Xaa->Option bK) (x:bK):Nf (dB of x).af:=BK _
def G2 {l:dr} (h:Nf l):Gf l=l:=(BK l).Nt h λs=>by rw [Cu,gc9]
def jB {of:Xaa->Option bK} (a:f.num<4294967296):(dB of f).num<4294967296:=by
 show f.af.foldl (hZ of) f.num<4294967296;generalize f.num=n at a;generalize f.af=l
 induction l generalizing n with
 | nil=>exact a
 | cons t l b =>
  rw [bt9];refine b _ ?_;unfold hZ;split
  ·exact a
  ·exact fz9 _ ad
section
variable {own:Xaa->Bool} {lin:Xaa->bK} {names:List Xaa}
def uh (c:∀ s,own s=true↔s∈names) (hc:∀ v,¬ lK (Edge own (cU lin)) v) {v:Xaa} (hv:v∈names):∀ t,t∈(K0 own lin names v).af->own t.1=false/\∃ w u,w∈names/\u∈(lin w).af/\u.1=t.1:=by
 refine UF (Q:=λv=>v∈names->∀ t,t∈(K0 own lin names v).af->own t.1=false/\∃ w u,w∈names/\u∈(lin w).af/\u.1=t.1) c hc ?_ hv hv;intro v g hv t ht;rw [Kt c hc hv] at ht;rcases qC ht with ⟨p,f,e,ho⟩ | ⟨p,y,u,f,ho,h,e⟩
 ·refine ⟨?_,v,p,hv,f,e⟩;unfold MA at ho;cases d:own t.1 with
  | false=>rfl
  | true=>rw [d] at ho; simp at ho
 ·unfold MA at ho
  by_cases d:own p.1=true
  ·rw [ag9 d] at ho;have ho:=bb9 ho;subst ho;obtain ⟨a,b⟩:=g p.1 ⟨mE.2 ⟨p,f,rfl⟩,d⟩ ((c _).1 d) u h;rw [<- e];exact ⟨a,b⟩
  ·rw [ac9 d] at ho; cases ho
def Ya (a:∀ s,own s=true↔s∈names) (hc:∀ v,¬ lK (Edge own (cU lin)) v) {v:Xaa} (hv:v∈names):Nf (K0 own lin names v).af:=by
 rw [Kt a hc hv]; exact eQ _ _
end
def add_zero' (a:Xax):a.add 0=a:=by unfold Addr.add; rw [ag9 rfl]
def YZ (a b:Xaa):(ByteArray.toList a==ByteArray.toList b)=decide (a=b):=by
 rw [ByteArray.toList_eq,ByteArray.toList_eq]
 by_cases h:a=b
 ·subst h; simp
 ·rw [al9 h];exact beq_eq_false_iff_ne.2 λe=>h (zy e)
def SL.take {h:Hp} {b:Nat} {e:TypeId} {sz:Nat} {p:Xac} {l c:Nat} {xs:List (List Xab)} (s:SL h b e sz p l c xs) {k:Nat} (hk:k<=l):SL h b e sz p k c (xs.take k):=by
 refine ⟨by rw [au9,<- s.1]; omega,λx i=>s.2.1 x (cy9 i),?_⟩;cases p with
 | none =>
  obtain ⟨h1,h2⟩:=s.2.2;subst h2;exact ⟨h1,ai⟩
 | some a =>
  obtain ⟨g,j,rest,rfl,m,n,f,o⟩:=s.2.2;have d:xs.flatten=(xs.take k).flatten++(xs.drop k).flatten:=by rw [<- fb9,cc9]
  refine ⟨g,j,(xs.drop k).flatten++rest,rfl,m,ad,?_,?_⟩
  ·rw [d] at f;simpa [List.append_assoc] using f
  ·rw [ae9,dy _ (λx i=>s.2.1 x (fp9 i)),bs9,o,<- s.1,<- dd9]
   congr 1; omega
abbrev enS (x:Xaa):List Xab:=[.string x]
def Z3:Tryz.prog.underlying 68=some (.slice 9):=av
def Z4:(Tryz.prog.info? 9).map (λi=>(i.zero,i.size,i.bytes))=some (some (.string ⟨#[]⟩),1,16):=av
def OR {xs:List Xaa} (s:SL O H 9 1 U V Z (xs.map enS)) (v:Xaa) (hv:v∈xs) (hl:V<=2^40) :
  ug Xaz 88 [.slice U V Z,.string v] O (vI ((xs.findIdx λx=>decide (v=x):Nat):Int)):=by
 refine eW mixed Tryz.func88 av (iY U V Z v) ?_;unfold fm aR aY bz aK aS;have o:V=xs.length:=by rw [s.1,ab9]
 refine aM (cs:=fV) (λx w h'=>h'=O/\∃ i:Nat,x.2.1=(i:Int)/\i<=xs.length/\w=xs.length-i/\∀ j,j<i->∀ f:j<xs.length,v≠xs[j]) ((0:Int),(0:Int),()) xs.length rfl ⟨rfl,0,rfl,ad,ad,λj f=>ad⟩ ?_;rintro ⟨q,t,⟨⟩⟩ w h2 ⟨rfl,i,hi,n,rfl,g⟩;simp only at hi;subst hi;refine ak ?_;refine aI ?_ ?_<;>intro r
 ·have d:i<xs.length:=ad
  refine eS ?_;obtain ⟨a,rfl,hc⟩:=s.cells (i:=i) (by simpa using d);rw [aj9] at hc;refine aF rfl ?_;rw [cg i];refine ar (xs[i],()) hc (ak ?_);rw [YZ];refine aI ?_ ?_<;>intro k
  ·have:xs.findIdx (λx=>decide (v=x))=i:=by
    rw [List.findIdx_eq d];exact ⟨by simpa using k,λj f=>by simpa using g j f ad⟩
   exact ⟨by rw [this],rfl⟩
  ·have hw:=gK i;refine aC (cs:=fV) (q,((i+1:Nat):Int),()) (xs.length-(i+1)) rfl ad (by rw [hw]; rfl) ⟨rfl,i+1,rfl,ad,rfl,λj f m=>?_⟩
   by_cases e:j=i
   ·subst e; exact k
   ·exact g j ad m
 ·have hi:i=xs.length:=ad
  subst hi;obtain ⟨j,f,e⟩:=bh9 hv;exact (g j f f e.symm).elim
def dC (es:List cV) (s:Xaa):bK:=(((lx es s).bind λk=>es[k]?).map (·.x)).getD vZ
def cE (es:List cV) (s:Xaa):Bool:=(lx es s).isSome
def aU (es:List cV):List Xaa:=es.map (·.name)
def dY (es:List cV) (s:Xaa):cE es s=true↔s∈aU es:=by
 unfold cE lx aU;rw [List.findIdx?_isSome,ed9]
 simp
def pZ {es:List cV} (h:lx es Y=some H):∃ hk:H<es.length,es[H].name=Y/\dC es Y=es[H].x:=by
 have h':=h;unfold lx at h';rw [bf9] at h';obtain ⟨hk,h1,h2⟩:=h';refine ⟨hk,ai9 h1,?_⟩;unfold dC;rw [h,do9,ad9 hk] <;> rfl
def F8 {es:List cV} (h:Y∈aU es):∃ k,lx es Y=some k:=by
 have:=(dY es Y).2 h
 unfold cE at this;exact cq9.1 this
structure TF where
 E:Nat
 gA:Nat
 A:Nat
 gB:Nat
 B:Nat
 gN:Nat
 gL:Nat
 N:Nat
 L:Nat
 W:Nat
 gO:Nat
 O:Nat
 V:Nat
def TF.ord (r:TF):Prop:=r.E<r.gA/\r.gA<r.A/\r.A<r.gB/\r.gB<r.B/\r.B<r.gN/\r.gN<r.gL/\r.gL<r.N/\r.N<r.L/\r.L<r.W/\r.W<r.gO/\r.gO<r.O/\r.O<r.V
abbrev bx (g:Nat):Xax:=⟨g,0,none⟩
def TF.vB (r:TF):List Xab:=[.pointer (some (bx r.N)),.pointer (some (bx r.L)),.pointer (some (bx r.W)),.pointer (some (bx r.O)),.pointer (some (bx r.E)),.pointer (some (bx r.A)),.pointer (some (bx r.B)),.pointer (some (bx r.V))]
structure SU (r:TF) (h:Hp) (es:List cV) (p0:Xac) (l0 c0:Nat):Prop where
 bE:br h r.E 67 [.slice p0 l0 c0]
 bA:br h r.A 105 [.map (some r.gA)]
 mA:∃ n,eu eI h r.gA (lx es) n
 bV:br h r.V 194 [.func (.func 87) #[] r.vB.toArray]
 bN:br h r.N 105 [.map (some r.gN)]
 bL:br h r.L 105 [.map (some r.gL)]
 bO:br h r.O 152 [.map (some r.gO)]
 bB:br h r.B 152 [.map (some r.gB)]
 vw:vQ h p0 l0 es
structure Mr (r:TF) (es:List cV) (p0:Xac):Prop where
 ord:r.ord
 l0:∀ i,i∈ax p0->i<r.E
 li:∀ e,e∈es->e.x.af≠[]->∀ i,i∈ax e.p->i<r.E
def iA.Mi {ws:List Nat} {h':Hp} {us:dr} (v:iA O U H us) (k:Ch ws O h') (a:us≠[]->∀ i,i∈ax U->i∉ws):iA h' U H us:=by
 by_cases hn:us=[]
 ·subst hn;exact ⟨v.len,λi hi=>by simp at hi⟩
 ·exact v.aj k (a hn)
def vQ.om {ws:List Nat} {h':Hp} {es:List cV} (v:vQ O U H es) (k:Ch ws O h') (d:∀ i,i∈ax U->i∉ws) (hi:∀ e,e∈es->e.x.af≠[]->∀ i,i∈ax e.p->i∉ws):vQ h' U H es :=
 ⟨v.len,λi hi=>by
  obtain ⟨a,b,hc⟩:=v.cells i hi;exact ⟨a,b,aP k (by rw [fw]; exact d _ (by rw [b]; simp [ax])) _ _ hc⟩,λe c=>(v.fF e c).Mi k (hi e c)⟩
def wsV (r:TF) (p:Xac):List Nat:=r.gN::r.gL::r.gO::r.gB::r.W::ax p
structure oy (r:TF) (h:Hp) (st:TS) (p:Xac) (l c:Nat):Prop where
 mN:eu eI h r.gN st.num st.kq
 mL:∃ n,eu eI h r.gL st.low n
 mO:∃ n,eu eB h r.gO st.on n
 mB:∃ n,eu eB h r.gB st.back n
 bW:br h r.W 68 [.slice p l c]
 w:SL h (r.V+1) 9 1 p l c (st.dq.map enS)
def SU.om {r:TF} {h h':Hp} {es:List cV} {p0:Xac} {l0 c0:Nat} {ws:List Nat} (m:SU r h es p0 l0 c0) (lo:Mr r es p0) (k:Ch ws h h') (d:∀ i,i∈ws->i=r.gN\/i=r.gL\/i=r.gO\/i=r.gB\/i=r.W\/r.V<i):SU r h' es p0 l0 c0:=by
 have o:=lo.ord;unfold TF.ord at o;have a:∀ i,i≠r.gN->i≠r.gL->i≠r.gO->i≠r.gB->i≠r.W->i<=r.V->i∉ws:=by
  intro i h1 h2 f g j l hi
  have:=d i hi
  omega
 obtain ⟨n,mA⟩:=m.mA;exact ⟨m.bE.aj k (a _ ad ad ad ad ad ad),m.bA.aj k (a _ ad ad ad ad ad ad),⟨n,mA.aj k (a _ ad ad ad ad ad ad)⟩,
  m.bV.aj k (a _ ad ad ad ad ad ad),m.bN.aj k (a _ ad ad ad ad ad ad),m.bL.aj k (a _ ad ad ad ad ad ad),
  m.bO.aj k (a _ ad ad ad ad ad ad),m.bB.aj k (a _ ad ad ad ad ad ad),
  m.vw.om k (λi hi=>a _ (by have:=lo.l0 i hi; omega) (by have:=lo.l0 i hi; omega) (by have:=lo.l0 i hi; omega) (by have:=lo.l0 i hi; omega) (by have:=lo.l0 i hi; omega) (by have:=lo.l0 i hi; omega))
   (λe c b i hi=>a _ (by have:=lo.li e c b i hi; omega) (by have:=lo.li e c b i hi; omega) (by have:=lo.li e c b i hi; omega) (by have:=lo.li e c b i hi; omega) (by have:=lo.li e c b i hi; omega) (by have:=lo.li e c b i hi; omega))⟩
def oy.aj {r:TF} {h h':Hp} {st:TS} {p:Xac} {l c:Nat} (m:oy r h st p l c) (k:Ext h h'):oy r h' st p l c:=by
 obtain ⟨a,mL⟩:=m.mL;obtain ⟨b,mO⟩:=m.mO;obtain ⟨d,mB⟩:=m.mB;exact ⟨m.mN.aj k ai,⟨a,mL.aj k ai⟩,⟨b,mO.aj k ai⟩,⟨d,mB.aj k ai⟩,m.bW.aj k ai,m.w.aj k ai⟩
structure rP (r:TF) (p:Xac) (h:Hp) (p':Xac) (h':Hp):Prop where
 ch:Ch (wsV r p) h h'
 cj:∀ i,i∈ax p'->i∈ax p\/h.size<=i
def rP.refl (r:TF) (p:Xac) (h:Hp):rP r p h p h:=⟨Ch.refl _ _,λi hi=>.inl hi⟩
variable {d:TF}
def rb {p:Xac} :H∈wsV d p↔H=d.gN\/H=d.gL\/H=d.gO\/H=d.gB\/H=d.W\/H∈ax p:=by
 unfold wsV; simp
def rP.trans {r:TF} {p q s:Xac} {a b c:Hp} (x:rP r p a q b) (y:rP r q b s c):rP r p a s c:=by
 have hz:=x.ch.size;refine ⟨Ch.trans x.ch y.ch λi hi hl=>?_,λi hi=>?_⟩
 ·rw [rb] at hi ⊢;rcases hi with h | h | h | h | h | h
  ·exact .inl h
  ·exact .inr (.inl h)
  ·exact .inr (.inr (.inl h))
  ·exact .inr (.inr (.inr (.inl h)))
  ·exact .inr (.inr (.inr (.inr (.inl h))))
  ·rcases x.cj i h with h | h
   ·exact .inr (.inr (.inr (.inr (.inr h))))
   ·omega
 ·rcases y.cj i hi with h | h
  ·exact x.cj i h
  ·exact .inr ad
def rP.ext {h':Hp} (k:Ext O h'):rP d U O U h':=⟨k.mono ai,λi hi=>.inl hi⟩
def rP.of {h':Hp} (k:Ch [H] O h') (a:H=d.gN\/H=d.gL\/H=d.gO\/H=d.gB\/H=d.W):rP d U O U h' :=
 ⟨k.mono λi hi hl=>by simp at hi; subst hi; rw [rb]; rcases a with O | O | O | O | O <;> simp [O],λi hi=>.inl hi⟩
def rP.co {r:TF} {p p':Xac} {l c:Nat} {h h':Hp} {st:TS} {es:List cV} {p0:Xac} {l0 c0:Nat} (x:rP r p h p' h') (lo:Mr r es p0) (m:oy r h st p l c) (co:SU r h es p0 l0 c0):SU r h' es p0 l0 c0:=by
 refine co.om lo x.ch λi hi=>?_
 rw [rb] at hi;rcases hi with h | h | h | h | h | h
 ·exact .inl h
 ·exact .inr (.inl h)
 ·exact .inr (.inr (.inl h))
 ·exact .inr (.inr (.inr (.inl h)))
 ·exact .inr (.inr (.inr (.inr (.inl h))))
 ·exact .inr (.inr (.inr (.inr (.inr (by have:=(m.w.cj h).1; omega)))))
def rP.box {p':Xac} {l c:Nat} {h':Hp} {st:TS} {e:TypeId} {xs:List Xab} (x:rP d U O p' h') (o:d.ord) (f:d.V<H) (a:H∉ax U) (b:br O H e xs):br h' H e xs:=by
 unfold TF.ord at o;refine b.aj x.ch λhi=>?_
 rw [rb] at hi;rcases hi with O | O | O | O | O | O <;> first | omega | exact a O
section
variable {L:Lp} {K:Xab->Hp->Prop} {h:Hp} {r:TF} {st:TS} {p:Xac} {l c:Nat}
def oy.Sp (m:oy r h st p l c) {i:Nat} (hi:i∈ax p):r.V<i:=by have:=(m.w.cj hi).1; omega
variable {H:Xaa} {O:T}
def oy.wP (m:oy r h st p l c) (o:r.ord) (a:H.size<=maxLen) {v:Int} {w:Nat} (hv:v=(w:Int)) (hk:∀ h',oy r h' { st with num:=dW st.num H w,kq:=if (st.num H).isSome then st.kq else st.kq+1 } p l c->rP r p h p h'->h'.size=h.size->O L K h') :
  T.fI Xaz (Instr.mapUpdate 105 (.map (some r.gN)) (.string H) (vI v)) O L K h:=by
 unfold TF.ord at o;obtain ⟨b,mL⟩:=m.mL;obtain ⟨d,mO⟩:=m.mO;obtain ⟨e,mB⟩:=m.mB;refine sJ m.mN a hv ?_;intro h' f c' g;exact hk h' ⟨f,⟨b,mL.aj c' (by simp; omega)⟩,⟨d,mO.aj c' (by simp; omega)⟩,⟨e,mB.aj c' (by simp; omega)⟩,m.bW.aj c' (by simp; omega),m.w.bf c' (λi hi=>by have:=m.Sp hi; simp; omega)⟩ (rP.of c' (.inl rfl)) g
def oy.uI (m:oy r h st p l c) (o:r.ord) (a:H.size<=maxLen) {v:Int} {w:Nat} (hv:v=(w:Int)) (hk:∀ h',oy r h' { st with low:=dW st.low H w } p l c->rP r p h p h'->h'.size=h.size->O L K h') :
  T.fI Xaz (Instr.mapUpdate 105 (.map (some r.gL)) (.string H) (vI v)) O L K h:=by
 unfold TF.ord at o;obtain ⟨g,mL⟩:=m.mL;obtain ⟨b,mO⟩:=m.mO;obtain ⟨d,mB⟩:=m.mB;refine sJ mL a hv ?_;intro h' e c' f;exact hk h' ⟨m.mN.aj c' (by simp; omega),⟨_,e⟩,⟨b,mO.aj c' (by simp; omega)⟩,⟨d,mB.aj c' (by simp; omega)⟩,m.bW.aj c' (by simp; omega),m.w.bf c' (λi hi=>by have:=m.Sp hi; simp; omega)⟩ (rP.of c' (.inr (.inl rfl))) f
variable {U:Bool}
def oy.Y1 (m:oy r h st p l c) (o:r.ord) (a:H.size<=maxLen) (hk:∀ h',oy r h' { st with on:=dW st.on H U } p l c->rP r p h p h'->h'.size=h.size->O L K h') :
  T.fI Xaz (Instr.mapUpdate 152 (.map (some r.gO)) (.string H) (.bool U)) O L K h:=by
 unfold TF.ord at o;obtain ⟨d,mL⟩:=m.mL;obtain ⟨j,mO⟩:=m.mO;obtain ⟨e,mB⟩:=m.mB;refine YN mO a ?_;intro h' f c' g;exact hk h' ⟨m.mN.aj c' (by simp; omega),⟨d,mL.aj c' (by simp; omega)⟩,⟨_,f⟩,⟨e,mB.aj c' (by simp; omega)⟩,m.bW.aj c' (by simp; omega),m.w.bf c' (λi hi=>by have:=m.Sp hi; simp; omega)⟩ (rP.of c' (.inr (.inr (.inl rfl)))) g
def oy.lL (m:oy r h st p l c) (o:r.ord) (a:H.size<=maxLen) (hk:∀ h',oy r h' { st with back:=dW st.back H U } p l c->rP r p h p h'->h'.size=h.size->O L K h') :
  T.fI Xaz (Instr.mapUpdate 152 (.map (some r.gB)) (.string H) (.bool U)) O L K h:=by
 unfold TF.ord at o;obtain ⟨d,mL⟩:=m.mL;obtain ⟨e,mO⟩:=m.mO;obtain ⟨j,mB⟩:=m.mB;refine YN mB a ?_;intro h' f c' g;exact hk h' ⟨m.mN.aj c' (by simp; omega),⟨d,mL.aj c' (by simp; omega)⟩,⟨e,mO.aj c' (by simp; omega)⟩,⟨_,f⟩,m.bW.aj c' (by simp; omega),m.w.bf c' (λi hi=>by have:=m.Sp hi; simp; omega)⟩ (rP.of c' (.inr (.inr (.inr (.inl rfl))))) g
variable {V:Int->T}
def oy.GK (m:oy r h st p l c) (s:Xaa) (hk:V (((st.num s).getD 0:Nat):Int) L K h):T.dP Xaz (Instr.lookup 105 (.map (some r.gN)) (.string s) false) false [(false,[.int .i64])] V L K h:=Lh m.mN s hk
def oy.Ct (m:oy r h st p l c) (s:Xaa) (hk:V (((st.low s).getD 0:Nat):Int) L K h):T.dP Xaz (Instr.lookup 105 (.map (some r.gL)) (.string s) false) false [(false,[.int .i64])] V L K h:=by
 obtain ⟨a,mL⟩:=m.mL;exact Lh mL s hk
variable {Y:Bool->T}
def oy.ZK (m:oy r h st p l c) (s:Xaa) (hk:Y ((st.on s).getD false) L K h):T.dP Xaz (Instr.lookup 152 (.map (some r.gO)) (.string s) false) false [(false,[.bool])] Y L K h:=by
 obtain ⟨a,mL⟩:=m.mO;exact Qb mL s hk
def oy.fc (m:oy r h st p l c) (s:Xaa) (hk:Y ((st.back s).getD false) L K h):T.dP Xaz (Instr.lookup 152 (.map (some r.gB)) (.string s) false) false [(false,[.bool])] Y L K h:=by
 obtain ⟨a,mL⟩:=m.mB;exact Qb mL s hk
end
def qE (names:List Xaa) (st:TS):Prop:=∀ s,st.num s≠none->s∈names
def L5 (es:List cV) (r:TF) (p0:Xac) (l0 c0 f:Nat):Prop :=
 ∀ (v:Xaa) (st:TS) (h:Hp) (p:Xac) (l c:Nat),oy r h st p l c->SU r h es p0 l0 c0->dT (aU es) st->v∈aU es->st.num v=none->sC (aU es) st<=f->qE (aU es) st ->
  HC Xaz 87 (.string v::r.vB).toArray h λw h'=>w=.tuple #[]/\∃ p' l' c',oy r h' (da (cE es) (cU (dC es)) f v st) p' l' c'/\rP r p h p' h'
def Z6:gC Xaz 87=true:=av
section
variable {L:Lp} {K:Xab->Hp->Prop} {h:Hp} {r:TF} {st:TS} {p:Xac} {l c:Nat} {es:List cV} {p0:Xac} {l0 c0:Nat}
def Mb {f:Nat} (i:L5 es r p0 l0 c0 f) (lo:Mr r es p0) (z:∀ s,s∈aU es->s.size<=maxLen) (m:oy r h st p l c) (co:SU r h es p0 l0 c0) (g:dT (aU es) st) (A:sC (aU es) st<=f) (hi:qE (aU es) st) {v w:Xaa} (hv:v∈aU es) (B:w∈aU es) {a q:Nat} (C:r.V<a) (n:a∉ax p) (b:br h a 64 [.string w,.int .u32 (q:Int)]) (j:Int)
  (hk:∀ h' p' l' c',oy r h' (u7 (da (cE es) (cU (dC es)) f) v w st) p' l' c'->rP r p h p' h'->T.again 0 [vI (IntKind.wrap .i64 (j+(1:Int)))] L K h') :
  Lw (bx r.N) (bx r.L) (bx r.O) (bx r.V) (bx a) v j L K h:=by
 unfold Lw aY ja dp aS;refine ay co.bN (some r.gN,()) (ak ?_);refine ay b (w,()) (ak ?_);refine m.GK w ?_;unfold u7 at hk;have hsv:=z v hv;refine ao ?_ ?_<;>intro d
 ·have d:(st.num w).getD 0=0:=by have:=ai9 d; omega
  rw [ag9 d] at hk;refine ay co.bV (.func (.func 87) #[] r.vB.toArray,()) (ak ?_);refine ay b (w,()) (ak ?_);refine pO (cap:=r.vB) Z6 rfl (i w st h p l c m co g B (g.none d) A hi) ?_;rintro _ h2 ⟨rfl,D,E,F,k,o⟩;refine ⟨(),rfl,ak ?_⟩;have co2:=o.co lo m co;have b2:=o.box (st:=st) (l:=l) (c:=c) lo.ord C n b;generalize da (cE es) (cU (dC es)) f w st=G at k hk;refine ay co2.bL (some r.gL,()) (ak ?_);refine ay co2.bL (some r.gL,()) (ak ?_);refine k.Ct v ?_;refine ay co2.bL (some r.gL,()) (ak ?_);refine ay b2 (w,()) (ak ?_);refine k.Ct w ?_;refine YT ?_;refine k.uI lo.ord hsv rfl ?_;intro t u x z3;exact hk t D E F u (o.trans x)
 ·have d:¬ (st.num w).getD 0=0:=by
   intro e;rw [e] at d;simp at d
  rw [ac9 d] at hk;refine ay co.bO (some r.gO,()) (ak ?_);refine ay b (w,()) (ak ?_);refine m.ZK w ?_;refine ao ?_ ?_<;>intro y
  ·rw [ag9 y] at hk;refine ay co.bL (some r.gL,()) (ak ?_);refine ay co.bL (some r.gL,()) (ak ?_);refine m.Ct v ?_;refine ay co.bN (some r.gN,()) (ak ?_);refine ay b (w,()) (ak ?_);refine m.GK w ?_;refine YT ?_;refine m.uI lo.ord hsv rfl ?_;intro t u x z3;exact hk t p l c u x
  ·rw [ac9 (by simp [y])] at hk;exact hk h p l c m (rP.refl _ _ _)
end
def qE.rest {names:List Xaa} {iX:Xaa->TS->TS} (a:∀ Y st,qE names st->Y∈names->qE names (iX Y st)) {v:Xaa} {st:TS} (hi:qE names st) (b:Y∈names):qE names (u7 iX v Y st):=by
 unfold u7;split
 ·exact a Y st hi b
 ·split <;> exact hi
def qE.step {names:List Xaa} {own:Xaa->Bool} (a:∀ s,own s=true->s∈names) {iX:Xaa->TS->TS} (b:∀ Y st,qE names st->Y∈names->qE names (iX Y st)) {v:Xaa} {st:TS} (hi:qE names st):qE names (fg own iX v st Y):=by
 unfold fg;split
 ·rename_i d;refine qE.rest b ?_ (a Y d);intro s c;rw [(jk v Y st).1] at c;exact hi s c
 ·exact hi
theorem qE.fold {names:List Xaa} {own:Xaa->Bool} (a:∀ s,own s=true->s∈names) {iX:Xaa->TS->TS} (b:∀ w st,qE names st->w∈names->qE names (iX w st)) {v:Xaa}:∀ (l:List Xaa) (st:TS),qE names st->qE names (l.foldl (fg own iX v) st)
 | [],st,hi=>hi
 | w::l,st,hi=>by
  rw [bt9];exact qE.fold a b l _ (qE.step a b hi)
def qE.open {names:List Xaa} {st:TS} (hi:qE names st) {v:Xaa} (hv:v∈names):qE names (fh v st):=by
 intro s a;have a:dW st.num v (st.kq+1) s≠none:=a
 by_cases e:s=v
 ·rw [e]; exact hv
 ·rw [cn _ _ e] at a;exact hi s a
theorem qE.visit {names:List Xaa} {own:Xaa->Bool} (a:∀ s,own s=true->s∈names) (succ:Xaa->List Xaa):∀ (f:Nat) (v:Xaa) (st:TS),qE names st->v∈names->qE names (da own succ f v st)
 | 0,v,st,hi,hv=>hi
 | f+1,v,st,hi,hv=>by
  have h:=qE.fold a (λw st hi c=>qE.visit a succ f w st hi c) (v:=v) (succ v) _ (hi.open hv);unfold da;split
  ·exact h
  ·intro s b;rw [py] at b;exact h s b
variable {g:TypeId}
def SL.I8 {sz c:Nat} {xs:List (List Xab)} (s:SL O H g sz U V c xs):V<=c:=by
 cases U with
 | none =>
  obtain ⟨h1,h2⟩:=s.2.2;rw [s.1,h1,h2]; simp
 | some a =>
  obtain ⟨d,j,rest,rfl,k,f,i,m⟩:=s.2.2;exact f.1
section
variable {L:Lp} {K:Xab->Hp->Prop} {h:Hp} {r:TF} {st:TS} {p:Xac} {l c:Nat} {es:List cV} {p0:Xac} {l0 c0:Nat}
variable {H:T}
def oy.YR (m:oy r h st p l c) (o:r.ord) {p':Xac} {l' c':Nat} {h1:Hp} {way':List Xaa} (a:Ch (ax p) h h1) (f:SL h1 (r.V+1) 9 1 p' l' c' (way'.map enS)) (j:∀ i,i∈ax p'->i∈ax p\/h.size<=i) 
  (hk:∀ h',oy r h' { st with dq:=way' } p' l' c'->rP r p h p' h'->H L K h'):T.aD (bx r.W) [.slice p' l' c'] H L K h1:=by
 have o':=o;unfold TF.ord at o;obtain ⟨n,mL⟩:=m.mL;obtain ⟨q,mO⟩:=m.mO;obtain ⟨s,mB⟩:=m.mB;have d:∀ g,g<=r.V->g∉ax p:=λg t hi=>by have:=m.Sp hi; omega
 refine bJ (m.bW.aj a (d _ ad)) ?_;intro h2 e b z2;have e:br h2 r.W 68 [.slice p' l' c']:=e;refine hk h2 ⟨(m.mN.aj a (d _ ad)).aj b (by simp; omega),⟨n,(mL.aj a (d _ ad)).aj b (by simp; omega)⟩,⟨q,(mO.aj a (d _ ad)).aj b (by simp; omega)⟩,⟨s,(mB.aj a (d _ ad)).aj b (by simp; omega)⟩,e,f.bf b (λi hi=>by have:=(f.cj hi).1; simp; omega)⟩
  ⟨Ch.trans (a.mono λi hi _=>by rw [rb]; simp [hi]) b (λi hi hl=>by simp at hi; rw [rb]; simp [hi]),j⟩
def oy.aad (m:oy r h st p l c) (o:r.ord) (x:r.V<h.size) (hl:l<=2^40) {v:Xaa} (hk:∀ h' p' c',oy r h' { st with dq:=st.dq++[v] } p' (l+1) c'->rP r p h p' h'->H L K h') :
  T.dP Xaz (Instr.buildSlice 68 1 #[(0,.string v)]) false [(false,[.slice 0])] (λq b g=>T.dP Xaz (Builtin.append_ #[68,68] 68 #[.slice p l c,.slice q b g]) false [(false,[.slice 0])] (λd e f=>T.aD (bx r.W) [.slice d e f] H)) L K h:=by
 refine eZ (vs:=enS v) Z3 Z4 rfl ad ad av rfl rfl m.w ad ad ad ?_;intro p' c' h1 j n s;refine m.YR o n (way':=st.dq++[v]) (by simpa using j) (λi hi=>?_) (λh' b t=>hk h' p' c' b t);rcases s with rfl | ⟨a,rfl,u⟩
 ·exact .inl hi
 ·simp [ax] at hi; subst hi; exact .inr u
def Xo {Q:List Xab->Hp->Prop} (lo:Mr r es p0) (R:∀ s,s∈aU es->s.size<=maxLen) (m:oy r h st p l c) (co:SU r h es p0 l0 c0) (hi:qE (aU es) st) (g:dT (aU es) st) (hl:l<=2^40) {v:Xaa} (S:tq v st<=st.dq.length)
  (hk:∀ h' p' l' c',oy r h' (sT v st) p' l' c'->rP r p h p' h'->K (.tuple #[]) h'):Xc (bx r.O) (bx r.B) (bx r.W) p l c ((tq v st:Nat):Int) [Q] K h:=by
 unfold Xc aY aK ja bY bR aS;have y:l=st.dq.length:=by rw [m.w.1,ab9]
 have hcap:=m.w.I8;rw [show Int.toNat ((tq v st:Nat):Int)=tq v st from ad,cg l];generalize A:tq v st=k at *;have C:decide (1<st.dq.length-tq v st)=decide (1<l-k):=by rw [A,y]
 unfold sT at hk;rw [C,A] at hk;refine aM (cs:=cz) (λx w h'=>∃ i:Nat,x.1=(i:Int)/\i<=l-k/\w=l-k-i/\oy r h' (((st.dq.drop k).take i).foldl (qV (decide (1<l-k))) st) p l c/\rP r p h p h') ((0:Int),()) (l-k) rfl ⟨0,rfl,ad,ad,by simpa using m,rP.refl _ _ _⟩ ?_;rintro ⟨U,⟨⟩⟩ w h2 ⟨i,D,P,rfl,d,G⟩;simp only at D;subst D;refine ak ?_;have co2:=G.co lo m co;have f:∀ (w:List Xaa) (st:TS),(w.foldl (qV (decide (1<l-k))) st).dq=st.dq:=by
  intro w
  induction w with
  | nil=>intro st; rfl
  | cons x w V=>intro st; rw [bt9,V]; rfl
 refine aI ?_ ?_<;>intro X
 ·have j:k+i<st.dq.length:=ad
  refine eS ?_;rw [ac9 ad];have hsl:=d.w;rw [f] at hsl;obtain ⟨a,rfl,hc⟩:=hsl.cells (i:=k+i) (by simpa using j);rw [aj9] at hc;refine aF rfl ?_;rw [cg i,add_add,<- dd9];have n:st.dq[k+i]∈aU es:=hi _ (g.fF _ (ah9 j));have b:(st.dq.drop k).take (i+1)=(st.dq.drop k).take i++[st.dq[k+i]]:=by
   rw [af9 (by rw [bs9]; omega),List.getElem_drop]
  generalize st.dq[k+i]=x at hc n b;refine ar (x,()) hc (ak ?_);have hsz:=R x n;generalize E:((st.dq.drop k).take i).foldl (qV (decide (1<l-k))) st=q at d;have o:((st.dq.drop k).take (i+1)).foldl (qV (decide (1<l-k))) st=qV (decide (1<l-k)) q x:=by rw [b,ck9,E]; rfl
  refine ay co2.bO (some r.gO,()) (ak ?_);refine d.Y1 lo.ord hsz ?_;intro Y H I z3;have co3:=I.co lo d co2;refine ay co3.bB (some r.gB,()) (ak ?_);refine ay co3.bB (some r.gB,()) (ak ?_);refine H.fc x ?_;have hw:=gK i;refine ao ?_ ?_<;>intro t
  ·have t:(q.back x).getD false=true:=t;refine H.lL lo.ord hsz ?_;intro J u F z4;refine aC (cs:=cz) (((i+1:Nat):Int),()) (l-k-(i+1)) rfl ad (as9 (λz=>[Value.int .i64 z]) hw) ⟨i+1,rfl,ad,rfl,?_,(G.trans I).trans F⟩;rw [o];unfold qV;rw [t];exact u
  ·have t:(q.back x).getD false=false:=t;refine ay H.bW ((_,_,_),()) (ak ?_);refine H.lL lo.ord hsz ?_;intro J u F z4;refine aC (cs:=cz) (((i+1:Nat):Int),()) (l-k-(i+1)) rfl ad (as9 (λz=>[Value.int .i64 z]) hw) ⟨i+1,rfl,ad,rfl,?_,(G.trans I).trans F⟩;rw [o];unfold qV;rw [t,fa9];have e:decide ((IntKind.wrap .i64 ((l:Int)-(k:Int)))>(1:Int))=decide (1<l-k):=by
    rw [wrap_i64 ad ad];exact fw9.2 ad
   rw [e] at u;exact u
 ·have M:i=l-k:=ad
  subst M;have b:(st.dq.drop k).take (l-k)=st.dq.drop k:=bo9 (by rw [bs9]; omega);rw [b] at d;have N:(if c=0 then p else (Option.map (λa=>Addr.add a 0) p))=p:=by
   split
   ·rfl
   ·cases p with
    | none=>rfl
    | some a=>simp only [Option.map_some,add_zero']
  refine ay d.bW ((p,l,c),()) (ak ?_);refine cX ⟨ad,ad,ad⟩ ?_;rw [N,gb9,gb9];have hsl:=d.w;rw [f] at hsl;have hsk:=hsl.take (k:=k) ad;rw [<- List.map_take] at hsk;refine d.YR lo.ord (Ch.refl _ _) hsk (λi hi=>.inl hi) ?_;intro J u F;exact hk J p k c u (G.trans F)
end
structure EqsOk (es:List cV):Prop where
 nodup:(aU es).Nodup
 len:es.length<=2^40
 sz:∀ e,e∈es->e.name.size<=maxLen
 tl:∀ e,e∈es->e.x.af.length<=2^40
 ts:∀ e,e∈es->∀ t,t∈e.x.af->t.1.size<=maxLen
def EqsOk.names {es:List cV} (o:EqsOk es):∀ s,s∈aU es->s.size<=maxLen:=by
 intro s a;obtain ⟨e,b,rfl⟩:=ap9.1 a;exact o.sz e b
section
variable {r:TF} {es:List cV} {p0:Xac} {l0 c0:Nat}
def OW (J:EqsOk es) (lo:Mr r es p0):∀ f,L5 es r p0 l0 c0 f:=by
 intro f;have n:∀ s,cE es s=true->s∈aU es:=λs=>(dY es s).1
 have hs:=J.names;have hnl:(aU es).length=es.length:=by unfold aU; rw [ab9]
 induction f with
 | zero =>
  intro v st h p l c m co g hv h0 hu hi
  have:=(g.open J.nodup hv h0).2
  omega
 | succ f ih =>
  intro v st h p l c m co g hv h0 hu hi;have o:=lo.ord;have o':=o;unfold TF.ord at o';have hlen:=J.len;refine aX (args:=.string v::r.vB) mixed Tryz.func87 av (oV v (bx r.N) (bx r.L) (bx r.W) (bx r.O) (bx r.E) (bx r.A) (bx r.B) (bx r.V)) ?_;unfold j6 aR aY bz aK cY bg dp aE bR bZ aS cH;have hsv:=hs v hv;have hcnt:st.kq<=es.length:=by have:=g.sum; omega
  have hway:=g.dq;have hll:l=st.dq.length:=by rw [m.w.1,ab9]
  have hV:=co.bV.lt;refine ay co.bN (some r.gN,()) (ak ?_);refine ay co.bN (some r.gN,()) (ak ?_);refine aaS (en:=eI) m.mN ?_;refine m.wP o hsv (w:=st.kq+1) (by rw [wrap_i64 ad ad]; omega) ?_;intro h1 Q s1 z1;have D:(st.num v).isSome=false:=by rw [h0]; rfl
  rw [D] at Q;simp only [Bool.false_eq_true,if_false] at Q;have co1:=s1.co lo m co;refine ay co1.bL (some r.gL,()) (ak ?_);refine ay co1.bN (some r.gN,()) (ak ?_);refine Q.GK v ?_;refine Q.uI o hsv rfl ?_;intro h2 m2 s2 z2;simp only [cK,Option.getD_some] at m2;have co2:=s2.co lo Q co1;refine ay m2.bW ((p,l,c),()) (ak ?_);refine m2.aad o ad ad ?_;intro h3 p3 c3 m3 s3;have co3:=s3.co lo m2 co2;refine ay co3.bO (some r.gO,()) (ak ?_);refine m3.Y1 o hsv ?_;intro h4 m4 s4 z4;have co4:=s4.co lo m3 co3;have s04:rP r p h p3 h4:=((s1.trans s2).trans s3).trans s4
  replace m4:oy r h4 (fh v st) p3 (l+1) c3:=m4
  refine ay co4.bE ((p0,l0,c0),()) (ak ?_);refine ay co4.bA (some r.gA,()) (ak ?_);obtain ⟨nA,mA⟩:=co4.mA;refine Lh mA v ?_;obtain ⟨k,hk⟩:=F8 hv;obtain ⟨u,hkn,hkx⟩:=pZ hk;have hl0:=co4.vw.len;rw [hk];simp only [Option.getD_some];refine eS ?_;obtain ⟨a,ha,hc⟩:=co4.vw.cells k u;refine aF ha ?_;rw [cg k];have hin:=co4.vw.fF es[k] (ah9 u);have C:∀ h',SU r h' es p0 l0 c0->iA h' es[k].p es[k].l es[k].x.af:=λh' co'=>co'.vw.fF es[k] (ah9 u)
  have htl:=J.tl es[k] (ah9 u);have hts:=J.ts es[k] (ah9 u);have hli:=lo.li es[k] (ah9 u);have R:cU (dC es) v=es[k].x.af.map (·.1):=by unfold cU; rw [hkx]
  generalize es[k]=e at hc hin C htl hts hli R;refine ar ((e.p,e.l,e.c),()) ⟨by rw [add_zero']; exact hc.2.1,trivial⟩ ?_;refine ak ?_;have hel:=hin.len;have hgood:=λl=>NR J.nodup n (cU (dC es)) g hv h0 hu l
  have S:∀ l:List Xaa,qE (aU es) (l.foldl (fg (cE es) (da (cE es) (cU (dC es)) f) v) (fh v st)):=λl=>qE.fold n (λw st hi hw=>qE.visit n (cU (dC es)) f w st hi hw) l _ (hi.open hv)
  refine aM (cs:=cz) (λx w h'=>∃ (i:Nat) (p':Xac) (l' c':Nat),x.1=(i:Int)/\i<=e.x.af.length/\w=e.x.af.length-i/\oy r h' (((e.x.af.map (·.1)).take i).foldl (fg (cE es) (da (cE es) (cU (dC es)) f) v) (fh v st)) p' l' c'/\rP r p h p' h')
   ((0:Int),()) e.x.af.length rfl ⟨0,p3,l+1,c3,rfl,ad,ad,m4,s04⟩ ?_
  rintro ⟨n26,⟨⟩⟩ w U ⟨i,p5,K,c5,X,hile,rfl,q,M⟩;simp only at X;subst X;refine ak ?_;have co5:=M.co lo m co;obtain ⟨F,Y,j,n5,Z⟩:=hgood ((e.x.af.map (·.1)).take i);have hi5:=S ((e.x.af.map (·.1)).take i);have hk5:=λhi:i<e.x.af.length=>(show (e.x.af.map (·.1)).take (i+1)=(e.x.af.map (·.1)).take i++[e.x.af[i].1] by
   rw [af9 (by rw [ab9]; exact hi),aj9])
  have hfin:i=e.x.af.length->(e.x.af.map (·.1)).take i=cU (dC es) v:=by
   intro hh;rw [R];exact bo9 (by rw [ab9]; omega)
  have hfold:∀ hi:i<e.x.af.length,((e.x.af.map (·.1)).take (i+1)).foldl (fg (cE es) (da (cE es) (cU (dC es)) f) v) (fh v st)=fg (cE es) (da (cE es) (cU (dC es)) f) v (((e.x.af.map (·.1)).take i).foldl (fg (cE es) (da (cE es) (cU (dC es)) f) v) (fh v st)) e.x.af[i].1:=by
   intro hi;rw [hk5 hi,ck9]; rfl
  have d:da (cE es) (cU (dC es)) (f+1) v st=(if wz ((cU (dC es) v).foldl (fg (cE es) (da (cE es) (cU (dC es)) f) v) (fh v st)) v<um ((cU (dC es) v).foldl (fg (cE es) (da (cE es) (cU (dC es)) f) v) (fh v st)) v then (cU (dC es) v).foldl (fg (cE es) (da (cE es) (cU (dC es)) f) v) (fh v st) else sT v ((cU (dC es) v).foldl (fg (cE es) (da (cE es) (cU (dC es)) f) v) (fh v st))):=rfl;refine aI ?_ ?_<;>intro g1
  ·have y:i<e.x.af.length:=ad
   have hfold:=hfold y;refine eS ?_;obtain ⟨a2,ha2,hc2⟩:=(C U co5).cells i y;refine aF ha2 ?_;rw [cg i];have htsi:=hts e.x.af[i] (ah9 y);generalize e.x.af[i]=t at hc2 htsi hfold;generalize hst5:((e.x.af.map (·.1)).take i).foldl (fg (cE es) (da (cE es) (cU (dC es)) f) v) (fh v st)=st5 at q F Y hi5 hfold;refine ar (t.1,(t.2:Int),()) hc2 (ak ?_);refine bn ?_;intro h6 b6 e6 z6;refine bJ b6 ?_;intro h7 P k7 z7;have P:br h7 U.size 64 [.string t.1,.int .u32 (t.2:Int)]:=P;have G:Ext U h7:=bS e6 k7;have co7:=co5.om lo G ai;have m7:=q.aj G;have YG:rP r p5 U p5 h7:=rP.ext G;have ha7:=co5.bV.lt;have H:U.size∉ax p5:=λhb=>by have:=(q.w.cj hb).2; omega
   have hw:=gK i;refine ay co7.bA (some r.gA,()) (ak ?_);refine ay P (t.1,()) (ak ?_);obtain ⟨nA7,mA7⟩:=co7.mA;refine Fh mA7 t.1 ?_;refine ao ?_ ?_<;>intro b
   ·have b:¬ cE es t.1=true:=by
     unfold cE;intro hh;rw [hh] at b;cases b
    have I:fg (cE es) (da (cE es) (cU (dC es)) f) v st5 t.1=st5:=ac9 b;refine aC (cs:=cz) (((i+1:Nat):Int),()) (e.x.af.length-(i+1)) rfl ad (as9 (λz=>[Value.int .i64 z]) hw) ⟨i+1,p5,K,c5,rfl,ad,rfl,?_,M.trans YG⟩;rw [hfold,I];exact m7
   ·have b:cE es t.1=true:=by
     unfold cE;cases hh:(lx es t.1).isSome with
     | true=>rfl
     | false=>rw [hh] at b; cases b
    have hwn:=n _ b;have I:fg (cE es) (da (cE es) (cU (dC es)) f) v st5 t.1=u7 (da (cE es) (cU (dC es)) f) v t.1 (fY v t.1 st5):=ag9 b;rw [I] at hfold;have g8:=F.self v t.1;have hu8:sC (aU es) (fY v t.1 st5)<=f:=by unfold sC; rw [(jk v t.1 st5).1]; exact Y
    have hi8:qE (aU es) (fY v t.1 st5):=by intro s hs; rw [(jk v t.1 st5).1] at hs; exact hi5 s hs
    refine ay P (t.1,()) (ak ?_);rw [YZ];refine aI ?_ ?_<;>intro g3
    ·refine ay co7.bB (some r.gB,()) (ak ?_);refine m7.lL o hsv ?_;intro h8 m8 s8 z8;have e8:fY v t.1 st5={ st5 with back:=dW st5.back v true }:=ag9 g3;rw [<- e8] at m8;have co8:=s8.co lo m7 co7;have b8:=s8.box (st:=st5) (l:=K) (c:=c5) o ha7 H P;refine Mb ih lo hs m8 co8 g8 hu8 hi8 hv hwn ha7 H b8 (i:Int) ?_;intro h9 p9 l9 c9 m9 s9;refine aC (cs:=cz) (((i+1:Nat):Int),()) (e.x.af.length-(i+1)) rfl ad (as9 (λz=>[Value.int .i64 z]) hw) ⟨i+1,p9,l9,c9,rfl,ad,rfl,?_,((M.trans YG).trans s8).trans s9⟩;rw [hfold];exact m9
    ·have e8:fY v t.1 st5=st5:=ac9 g3;rw [<- e8] at m7;refine Mb ih lo hs m7 co7 g8 hu8 hi8 hv hwn ha7 H P (i:Int) ?_;intro h9 p9 l9 c9 m9 s9;refine aC (cs:=cz) (((i+1:Nat):Int),()) (e.x.af.length-(i+1)) rfl ad (as9 (λz=>[Value.int .i64 z]) hw) ⟨i+1,p9,l9,c9,rfl,ad,rfl,?_,(M.trans YG).trans s9⟩;rw [hfold];exact m9
  ·have hii:=hfin ad;rw [hii] at q F j hi5 Z;generalize hst5:(cU (dC es) v).foldl (fg (cE es) (da (cE es) (cU (dC es)) f) v) (fh v st)=st5 at q F j hi5 Z d;refine ay co5.bL (some r.gL,()) (ak ?_);refine q.Ct v ?_;refine ay co5.bN (some r.gN,()) (ak ?_);refine q.GK v ?_;refine ao ?_ ?_<;>intro b
   ·have b:wz st5 v<um st5 v:=by have:=ai9 b; unfold wz um; omega
    rw [ag9 b] at d;refine ⟨rfl,p5,K,c5,?_,M⟩;rw [d];exact q
   ·have b:¬ wz st5 v<um st5 v:=by have:=aw9 b; unfold wz um; omega
    rw [ac9 b] at d;have hl5:K=st5.dq.length:=by rw [q.w.1,ab9]
    have hw5:=F.dq;have hc5:st5.kq<=es.length:=by have:=F.sum; omega
    have hvw:v∈st5.dq:=j.subset ai;have hpk:tq v st5<st5.dq.length:=by
     unfold tq;rw [List.findIdx_lt_length];exact ⟨v,hvw,ai⟩
    refine ay q.bW ((p5,K,c5),()) (ak ?_);refine jD (OR q.w v hvw ad) ?_;refine ay q.bW ((p5,K,c5),()) (ak ?_);have hcap:=q.w.I8;have hpk':(st5.dq.findIdx λx=>decide (v=x))=tq v st5:=rfl;rw [hpk'];refine cX ⟨ad,ad,ad⟩ ?_;refine Xo lo hs q co5 hi5 F ad ad ?_;intro h6 p6 l6 c6 m6 s6;refine ⟨rfl,p6,l6,c6,?_,M.trans s6⟩;rw [d];exact m6
end
theorem qE.top {names:List Xaa} {own:Xaa->Bool} (a:∀ s,own s=true->s∈names) (succ:Xaa->List Xaa) (f:Nat):∀ (l:List Xaa) (st:TS),(∀ s,s∈l->s∈names)->qE names st->qE names (l.foldl (yk own succ f) st)
 | [],st,hl,hi=>hi
 | w::l,st,hl,hi=>by
  rw [bt9];refine qE.top a succ f l _ (λs b=>hl s (aq9 _ b)) ?_;unfold yk;split
  ·exact qE.visit a succ f w st hi (hl w ai)
  ·exact hi
def Kn {p:Xac} {c:Nat} {es:List cV} (v:vQ O p H es) (U:EqsOk es) (hp:∀ i,i∈ax p->i<O.size) :
  HC Xaz 61 #[.slice p H c] O λw h'=>(∃ g n,w=.map (some g)/\eu eB h' g (IE (cE es) (cU (dC es)) (aU es)).back n/\O.size<=g)/\Ext O h':=by
 refine aX (args:=[.slice p H c]) mixed Tryz.func61 av (zd p H c) ?_;unfold vf aR aY bz aK cv dp aE bm bZ aS;have A:∀ s,cE es s=true->s∈aU es:=λs=>(dY es s).1
 have hnl:(aU es).length=es.length:=by unfold aU; rw [ab9]
 have hll:=v.len;have hlen:=U.len;refine bn ?_;intro h1 b1 e1 z1;refine ay b1 ((p,H,c),()) (ak ?_);refine aG (Bv (v.aj e1) U.len U.nodup U.sz) ?_;rintro _ h2 ⟨⟨gA,rfl,mA,hgA⟩,e2⟩;refine ⟨(some gA,()),rfl,ak ?_⟩;have b2:=b1.aj e2 ai;have hgA2:=mA.lt;refine bn ?_;intro h3 b3 e3 z3;refine bJ b3 ?_;intro h4 b4 k4 z4;have b4:br h4 h2.size 105 [.map (some gA)]:=b4;have e24:Ext h2 h4:=bS e3 k4;refine zX (en:=eB) ?_;intro W m5 e5 z5;refine bn ?_;intro h6 b6 e6 z6;refine bJ b6 ?_;intro h7 b7 k7 z7;have b7:br h7 W.size 152 [.map (some h4.size)]:=b7;have X:Ext W h7:=bS e6 k7;refine zX (en:=eI) ?_;intro h8 m8 e8 z8;refine zX (en:=eI) ?_;intro C m9 e9 z9;refine bn ?_;intro Y b10 e10 z10;refine bn ?_;intro h11 b11 Z z11;refine bJ (b10.aj Z ai) ?_;intro h12 K k12 z12;have K:br h12 C.size 105 [.map (some h7.size)]:=K;refine bJ (b11.aj k12 (by simp; omega)) ?_;intro h13 L k13 z13;have L:br h13 Y.size 105 [.map (some h8.size)]:=L;have e913:Ext C h13:=Ch.trans ((bS (Ext.trans e10 Z) k12):Ext C h12) k13 (λj hj hl=>by simp at hj; omega);refine bn ?_;intro h14 b14 e14 z14;refine zX (en:=eB) ?_;intro M m15 e15 z15;refine bn ?_;intro h16 b16 e16 z16;refine bJ b16 ?_;intro h17 P k17 z17;have P:br h17 M.size 152 [.map (some h14.size)]:=P;have Q:Ext M h17:=bS e16 k17;refine bn ?_;intro h18 b18 e18 z18;refine bJ b18 ?_;intro h19 b19 k19 z19;have f:Ext h17 h19:=bS e18 k19;have e1519:=Q.trans f;have a:Ext h13 h19:=(e14.trans e15).trans e1519;have e919:=e913.trans a;have m:Ext h7 h19:=(e8.trans e9).trans e919;have D:Ext h4 h19:=(e5.trans X).trans m;have e219:=e24.trans D;have F:Ext O h19:=(e1.trans e2).trans e219;have hz13:h13.size=C.size+2:=ad
 have hz9:C.size=h7.size+2:=ad
 have hz7:h7.size=h4.size+2:=ad
 have hz4:h4.size=h2.size+1:=ad
 generalize G:(⟨O.size,gA,h2.size,h4.size,W.size,h7.size,h8.size,C.size,Y.size,h13.size,h14.size,M.size,h17.size⟩:TF)=r;have ho:r.ord:=by
  subst G;unfold TF.ord;dsimp only;omega
 have co:SU r h19 es p H c:=by
  subst G;refine ⟨(b2.aj e219 ai),b4.aj D ai,⟨_,mA.aj e219 ai⟩,?_,(K.aj k13 (by simp; omega)).aj a ai,L.aj a ai,P.aj f ai,b7.aj m ai,v.aj F⟩;exact b19
 have st:oy r h19 D3 none 0 0:=by
  subst G;exact ⟨m8.aj (e9.trans e919) ai,⟨0,m9.aj e919 ai⟩,⟨0,m15.aj e1519 ai⟩,⟨0,m5.aj ((X.trans m)) ai⟩,b14.aj (e15.trans e1519) ai,SL.nil _ _ _ _⟩
 have lo:Mr r es p:=by
  subst G;exact ⟨ho,hp,λe he hne i hi=>(v.fF e he).Yg hne i hi⟩
 have hrE:r.E=O.size:=by subst G; rfl
 have hbN:r.N=C.size:=by subst G; rfl
 have hbV:r.V=h17.size:=by subst G; rfl
 have hbB:r.B=W.size:=by subst G; rfl
 rw [show (⟨C.size,0,none⟩:Xax)=bx r.N by rw [hbN],show (⟨h17.size,0,none⟩:Xax)=bx r.V by rw [hbV],show (⟨W.size,0,none⟩:Xax)=bx r.B by rw [hbB],show (⟨O.size,0,none⟩:Xax)=bx r.E by rw [hrE]];refine ay co.bE ((p,H,c),()) (ak ?_);refine aM (cs:=cz) (λx w h'=>∃ (i:Nat) (p':Xac) (l' c':Nat),x.1=(i:Int)/\i<=es.length/\w=es.length-i/\oy r h' (((aU es).take i).foldl (yk (cE es) (cU (dC es)) (aU es).length) D3) p' l' c'/\rP r none h19 p' h')
  ((0:Int),()) es.length rfl ⟨0,none,0,0,rfl,ad,ad,st,rP.refl _ _ _⟩ ?_
 rintro ⟨n20,⟨⟩⟩ w h20 ⟨i,R,l20,c20,hi0,hile,rfl,q,S⟩;simp only at hi0;subst hi0;refine ak ?_;have co20:=S.co lo st co;refine aI ?_ ?_<;>intro g1
 ·have I:i<es.length:=ad
  refine eS ?_;obtain ⟨a2,ha2,hc2⟩:=co20.vw.cells i I;refine aF ha2 ?_;rw [cg i];have t20:=ED (own:=cE es) (succ:=cU (dC es)) U.nodup A ((aU es).take i) [] D3 (λs hs=>cy9 hs) (ZS _);have i20:=qE.top A (cU (dC es)) (aU es).length ((aU es).take i) D3 (λs hs=>cy9 hs) (λs hs=>(hs rfl).elim);have t:(aU es).take (i+1)=(aU es).take i++[es[i].name]:=by
   rw [af9 ad];unfold aU;rw [aj9]
  have J:es[i].name∈aU es:=ay9 (ah9 I);generalize es[i]=e at hc2 t J;have b:((aU es).take (i+1)).foldl (yk (cE es) (cU (dC es)) (aU es).length) D3=yk (cE es) (cU (dC es)) (aU es).length (((aU es).take i).foldl (yk (cE es) (cU (dC es)) (aU es).length) D3) e.name:=by
   rw [t,ck9]; rfl
  generalize ((aU es).take i).foldl (yk (cE es) (cU (dC es)) (aU es).length) D3=o at q t20 i20 b;refine ar (e.name,(e.p,e.l,e.c),(e.x.num:Int),()) hc2 (ak ?_);refine bn ?_;intro h21 b21 e21 z21;refine bJ b21 ?_;intro h22 u k22 z22;have u:br h22 h20.size 116 [.string e.name,.slice e.p e.l e.c,.int .u32 e.x.num]:=u;have d:Ext h20 h22:=bS e21 k22;have co22:=co20.om lo d ai;have m22:=q.aj d;have s22:rP r none h19 R h22:=S.trans (rP.ext d);have hw:=gK i;refine ay co22.bN (some r.gN,()) (ak ?_);refine ay u (e.name,()) (ak ?_);refine m22.GK e.name ?_;refine ao ?_ ?_<;>intro y
  ·have y:(o.num e.name).getD 0=0:=by have:=ai9 y; omega
   refine ay co22.bV (.func (.func 87) #[] r.vB.toArray,()) (ak ?_);refine ay u (e.name,()) (ak ?_);refine pO (cap:=r.vB) Z6 rfl (OW U lo (aU es).length e.name o h22 R l20 c20 m22 co22 t20.qz J (t20.qz.none y) (dr9 _ _) i20) ?_;rintro _ h23 ⟨rfl,p23,l23,c23,m23,s23⟩;refine ⟨(),rfl,?_⟩;refine aC (cs:=cz) (((i+1:Nat):Int),()) (es.length-(i+1)) rfl ad (as9 (λz=>[Value.int .i64 z]) hw) ⟨i+1,p23,l23,c23,rfl,ad,rfl,?_,s22.trans s23⟩;rw [b];unfold yk;rw [ag9 y];exact m23
  ·have y:¬ (o.num e.name).getD 0=0:=by
    intro k;rw [k] at y;simp at y
   refine aC (cs:=cz) (((i+1:Nat):Int),()) (es.length-(i+1)) rfl ad (as9 (λz=>[Value.int .i64 z]) hw) ⟨i+1,R,l20,c20,rfl,ad,rfl,?_,s22⟩;rw [b];unfold yk;rw [ac9 y];exact m22
 ·have t:(aU es).take i=aU es:=bo9 ad;rw [t] at q;refine ay co20.bB (some r.gB,()) (ak ?_);obtain ⟨n3,mB⟩:=q.mB;have o':=ho;unfold TF.ord at o';refine ⟨⟨r.gB,n3,rfl,mB,ad⟩,Ch.trans F S.ch λj hj hl=>?_⟩;rw [rb] at hj;simp [ax] at hj;omega
def ym {us:dr} (s:SL O H g 2 U V Z (us.map cT)):iA O U V us :=
 ⟨by rw [s.1,ab9],λi hi=>by
  obtain ⟨a,d,hc⟩:=s.cells (i:=i) (by simpa using hi);rw [aj9] at hc;exact ⟨a,d,hc⟩⟩
structure vl (es:List cV):Prop extends EqsOk es where
 YC:(es.flatMap (·.x.af)).length<=2^20
abbrev fy (es:List cV) (v:Xaa):bK:=K0 (cE es) (dC es) (aU es) v
abbrev dG (es:List cV):Xaa->Xaa->Prop:=Edge (cE es) (cU (dC es))
def lj {es:List cV} {v:Xaa} (hv:v∈aU es):∃ e,e∈es/\e.name=v/\dC es v=e.x:=by
 obtain ⟨k,hk⟩:=F8 hv;obtain ⟨a,b,c⟩:=pZ hk;exact ⟨_,ah9 a,b,c⟩
def iP {α β:Type} (f:α->List β) {l:List α} {a:α} (h:a∈l):(f a).length<=(l.flatMap f).length:=by
 induction l with
 | nil=>simp at h
 | cons b l c =>
  rw [cf9,ae9];rcases bd9.1 h with e | e
  ·subst e; omega
  ·have:=c e; omega
def vl.AH {es:List cV} (o:vl es) {v:Xaa} (hv:v∈aU es):(dC es v).af.length<=2^20:=by
 obtain ⟨e,a,_,b⟩:=lj hv;rw [b];exact cd9 (iP (λe:cV=>e.x.af) a) o.YC
def vl.F3 {es:List cV} (o:vl es) (hc:∀ v,¬ lK (dG es) v) {v:Xaa} (hv:v∈aU es):(fy es v).af.length<=2^20:=by
 have hnf:=Ya (dY es) hc hv;have hnm:=uh (dY es) hc hv;have h1:((fy es v).af.map (·.1)).Nodup:=cs9.2 (hnf.1.imp λh=>ko h);have h2:=kJ ((fy es v).af.map (·.1)) ((es.flatMap (·.x.af)).map (·.1)) h1 (λs b=>by
  obtain ⟨t,ht,rfl⟩:=ap9.1 b;obtain ⟨_,w,u,c,a,e⟩:=hnm t ht;obtain ⟨d,f,_,g⟩:=lj c;rw [g] at a;rw [<- e];exact ay9 (ff9.2 ⟨d,f,a⟩))
 rw [ab9,ab9] at h2;exact cd9 h2 o.YC
def vl.Ov {es:List cV} (o:vl es) (hc:∀ v,¬ lK (dG es) v) {v:Xaa} (hv:v∈aU es):∀ t,t∈(fy es v).af->t.1.size<=maxLen:=by
 intro t ht;obtain ⟨_,w,u,b,a,e⟩:=uh (dY es) hc hv t ht;obtain ⟨d,c,_,f⟩:=lj b;rw [f] at a;rw [<- e];exact o.ts d c u a
theorem rA {of:Xaa->Option bK} {B:Nat} (b:1<=B) (a:∀ s y,of s=some y->y.af.length<=B):∀ l:dr,(l.flatMap (tv of)).length<=l.length*B
 | []=>ai
 | t::l=>by
  rw [cf9,ae9,cn9,dd9];have ih:=rA b a l
  have:(tv of t).length<=B:=by
   unfold tv;cases h:of t.1 with
   | none=>simpa using b
   | some y=>simpa using a _ _ h
  omega
structure SF where
 E:Nat
 gA:Nat
 A:Nat
 gD:Nat
 D:Nat
 V:Nat
def SF.ord (r:SF):Prop:=r.E<r.gA/\r.gA<r.A/\r.A<r.gD/\r.gD<r.D/\r.D<r.V
def SF.vB (r:SF):List Xab:=[.pointer (some (bx r.D)),.pointer (some (bx r.E)),.pointer (some (bx r.A)),.pointer (some (bx r.V))]
structure Yt (r:SF) (h:Hp) (es:List cV) (p0:Xac) (l0 c0:Nat):Prop where
 bE:br h r.E 67 [.slice p0 l0 c0]
 bA:br h r.A 105 [.map (some r.gA)]
 mA:∃ n,eu eI h r.gA (lx es) n
 bV:br h r.V 166 [.func (.func 63) #[] r.vB.toArray]
 bD:br h r.D 165 [.map (some r.gD)]
 vw:vQ h p0 l0 es
structure LoS (r:SF) (es:List cV) (p0:Xac):Prop where
 ord:r.ord
 l0:∀ i,i∈ax p0->i<r.E
 li:∀ e,e∈es->e.x.af≠[]->∀ i,i∈ax e.p->i<r.E
def Yt.aj {r:SF} {h h':Hp} {es:List cV} {p0:Xac} {l0 c0:Nat} (m:Yt r h es p0 l0 c0) (lo:LoS r es p0) (k:Ch [r.gD] h h'):Yt r h' es p0 l0 c0:=by
 have o:=lo.ord;unfold SF.ord at o;obtain ⟨n,mA⟩:=m.mA;exact ⟨m.bE.aj k (by simp; omega),m.bA.aj k (by simp; omega),⟨n,mA.aj k (by simp; omega)⟩,m.bV.aj k (by simp; omega),m.bD.aj k (by simp; omega),m.vw.om k (λi hi=>by have:=lo.l0 i hi; simp; omega) (λe b a i hi=>by have:=lo.li e b a i hi; simp; omega)⟩
structure Wp (r:SF) (h:Hp) (es:List cV) (f:Xaa->Option tE):Prop where
 map:∃ n,Jy h r.gD f n
 of:∀ s y,f s=some y->s∈aU es/\y.x=fy es s/\∀ i,i∈ax y.p->r.V<i/\i<h.size
variable {k:SF}
def Wp.ext {h':Hp} {es:List cV} {f:Xaa->Option tE} (d:Wp k O es f) (e:Ext O h'):Wp k h' es f:=by
 obtain ⟨n,m⟩:=d.map;exact ⟨⟨n,m.aj e ai (λs y g i hi=>ai)⟩,λs y g=>by
  obtain ⟨a,b,c⟩:=d.of s y g;exact ⟨a,b,λi hi=>⟨(c i hi).1,ea9 (c i hi).2 e.size⟩⟩⟩
def ZJ (f a:Xaa->Option tE):Prop:=∀ s y,f s=some y->a s=some y
def VK (b:Nat) (f a:Xaa->Option tE):Prop:=∀ s y,a s=some y->f s=some y\/∀ i,i∈ax y.p->b<=i
def WM:gC Xaz 63=true:=av
def PB {es:List cV} {p0:Xac} {l0 c0:Nat} (eo:vl es) (lo:LoS k es p0) (hc:∀ v,¬ lK (dG es) v):∀ (d:Nat) (v:Xaa),Hg (dG es) d v->v∈aU es->∀ (h:Hp) (f:Xaa->Option tE),Yt k h es p0 l0 c0->Wp k h es f ->
  HC Xaz 63 (.string v::k.vB).toArray h λw h'=>∃ y N,w=eL y/\y.x=fy es v/\Wp k h' es N/\N v=some y/\ZJ f N/\VK h.size f N/\Ch [k.gD] h h':=by
 intro d;have o:=lo.ord;have o':=o;unfold SF.ord at o';have hown:=dY es
 induction d with
 | zero=>intro v hg; exact hg.elim
 | succ d ih =>
  intro v hg hv h f co dn;refine aX (args:=.string v::k.vB) mixed Tryz.func63 av (qW v (bx k.D) (bx k.E) (bx k.A) (bx k.V)) ?_;unfold lT aR aY bz aK cv dp aE bm bZ aS cH;have hV:=co.bV.lt;have hsv:=eo.toEqsOk.names v hv;refine bn ?_;intro h1 b1 e1 z1;have co1:=co.aj lo (e1.mono ai);have dn1:=dn.ext e1;refine ay co1.bD (some k.gD,()) (ak ?_);obtain ⟨n1,m1⟩:=dn1.map;refine Ct m1.map v (λy hy1=>?_) (λhy0=>?_)
  ·refine bn ?_;intro h2 b2 e2 z2;refine bJ b2 ?_;intro h3 b3 k3 z3;have b3:br h3 h1.size 53 [.slice y.p y.l y.c,.int .u32 (y.x.num:Int)]:=b3;have F:Ext h1 h3:=bS e2 k3;refine bU rfl ?_;refine ay b3 ((y.p,y.l,y.c),(y.x.num:Int),()) (ak ?_);refine bJ (b1.aj F ai) ?_;intro h4 b4 k4 z4;have b4:br h4 h.size 53 [.slice y.p y.l y.c,.int .u32 (y.x.num:Int)]:=b4;refine ay b4 ((y.p,y.l,y.c),(y.x.num:Int),()) ?_;have e04:Ext h h4:=bS (e1.trans F) k4;exact ⟨y,f,rfl,(dn.of v y hy1).2.1,dn.ext e04,hy1,λs y hy=>hy,λs y hy=>.inl hy,e04.mono ai⟩
  ·refine bn ?_;intro h2 b2 e2 z2;refine bJ b2 ?_;intro h3 b3 k3 z3;have F:Ext h1 h3:=bS e2 k3;refine bX rfl ?_;have e03:=e1.trans F;have co3:=co.aj lo (e03.mono ai);have dn3:=dn.ext e03;refine ay co3.bE ((p0,l0,c0),()) (ak ?_);refine ay co3.bA (some k.gA,()) (ak ?_);obtain ⟨nA,mA⟩:=co3.mA;refine Lh mA v ?_;obtain ⟨q,hq⟩:=F8 hv;obtain ⟨O,hqn,hqx⟩:=pZ hq;have hl0:=co3.vw.len;have hlen:=eo.len;rw [hq];simp only [Option.getD_some];refine eS ?_;obtain ⟨a,ha,Z⟩:=co3.vw.cells q O;refine aF ha ?_;rw [cg q];have n:∀ h',Yt k h' es p0 l0 c0->iA h' es[q].p es[q].l es[q].x.af:=λh' co'=>co'.vw.fF es[q] (ah9 O)
   have hts:=eo.ts es[q] (ah9 O);have hli:=lo.li es[q] (ah9 O);have hll:=eo.AH hv;have hsol:=Kt hown hc hv;rw [hqx] at hll hsol;have G:∀ t,t∈es[q].x.af->cE es t.1=true->dG es v t.1:=λt ht C=>⟨mE.2 ⟨t,by rw [hqx]; exact ht,rfl⟩,C⟩
   generalize es[q]=e at Z n hts hli hll hsol G;refine ar ((e.p,e.l,e.c),(e.x.num:Int),()) ⟨by rw [add_zero']; exact Z.2.1,by rw [add_add]; exact Z.2.2.1,trivial⟩ ?_;refine ak ?_;refine bn ?_;intro h5 b5 e5 z5;refine bJ b5 ?_;intro h6 b6 k6 z6;have b6:br h6 h3.size 53 [.slice e.p e.l e.c,.int .u32 (e.x.num:Int)]:=b6;have e36:Ext h3 h6:=bS e5 k6;have e06:=e03.trans e36;have hz3:=e03.size;refine ay b6 ((e.p,e.l,e.c),()) (ak ?_);refine aM (cs:=cz) (λx w h'=>∃ (i:Nat) (N:Xaa->Option tE),x.1=(i:Int)/\i<=e.x.af.length/\w=e.x.af.length-i/\Wp k h' es N/\ZJ f N/\VK h6.size f N/\(∀ t,t∈e.x.af.take i->cE es t.1=true->∃ y,N t.1=some y)/\Ch [k.gD] h6 h')
    ((0:Int),()) e.x.af.length rfl ⟨0,f,rfl,ad,ad,dn.ext e06,λs y hy=>hy,λs y hy=>.inl hy,ai,Ch.refl _ _⟩ ?_
   rintro ⟨n23,⟨⟩⟩ w h7 ⟨i,H,hi0,hile,rfl,g,sb7,P,Q,k7⟩;simp only at hi0;subst hi0;refine ak ?_;have R:Ch [k.gD] h h7:=Ch.trans (e06.mono ai) k7 (λj I _=>I);have co7:=co.aj lo R;have hel:=(n h7 co7).len;refine aI ?_ ?_<;>intro g1
   ·have J:i<e.x.af.length:=ad
    refine eS ?_;obtain ⟨a2,ha2,hc2⟩:=(n h7 co7).cells i J;refine aF ha2 ?_;rw [cg i];have htk:e.x.af.take (i+1)=e.x.af.take i++[e.x.af[i]]:=af9 J;have hed:=G e.x.af[i] (ah9 J);generalize e.x.af[i]=t at hc2 htk hed;refine ar (t.1,(t.2:Int),()) hc2 (ak ?_);refine bn ?_;intro h8 b8 e8 z8;refine bJ b8 ?_;intro h9 S k9 z9;have S:br h9 h7.size 64 [.string t.1,.int .u32 (t.2:Int)]:=S;have K:Ext h7 h9:=bS e8 k9;have U:Ch [k.gD] h h9:=Ch.trans R K ai;have co9:=co.aj lo U;have dn9:=g.ext K;have hw:=gK i;refine ay co9.bA (some k.gA,()) (ak ?_);refine ay S (t.1,()) (ak ?_);obtain ⟨nA9,mA9⟩:=co9.mA;refine Fh mA9 t.1 ?_;refine ao ?_ ?_<;>intro W
    ·have W:cE es t.1=true:=W;refine ay co9.bV (.func (.func 63) #[] k.vB.toArray,()) (ak ?_);refine ay S (t.1,()) (ak ?_);refine pO (cap:=k.vB) WM rfl (ih t.1 (hg t.1 (hed W)) ((hown _).1 W) h9 H co9 dn9) ?_;rintro _ h10 ⟨y,f10,rfl,hyx,dn10,hfy,Y,na10,m⟩;refine ⟨((y.p,y.l,y.c),(y.x.num:Int),()),rfl,ak ?_⟩;refine aC (cs:=cz) (((i+1:Nat):Int),()) (e.x.af.length-(i+1)) rfl ad (as9 (λz=>[Value.int .i64 z]) hw) ⟨i+1,f10,rfl,ad,rfl,dn10,λs y hy=>Y s y (sb7 s y hy),λs y hy=>?_,λu hu C=>?_,?_⟩
     ·rcases na10 s y hy with h | h
      ·exact P s y h
      ·refine .inr λi hi=>?_
       have:=h i hi
       have:=k7.size
       have:=K.size
       omega
     ·rw [htk] at hu;rcases ar9.1 hu with h | h
      ·obtain ⟨y,hy⟩:=Q u h C;exact ⟨y,Y _ _ hy⟩
      ·rw [an9.1 h]; exact ⟨y,hfy⟩
     ·exact Ch.trans (Ch.trans k7 K ai) m (λj I _=>I)
    ·have W:¬ cE es t.1=true:=by
      unfold cE;intro d;rw [d] at W;cases W
     refine aC (cs:=cz) (((i+1:Nat):Int),()) (e.x.af.length-(i+1)) rfl ad (as9 (λz=>[Value.int .i64 z]) hw) ⟨i+1,H,rfl,ad,rfl,dn9,sb7,P,λu hu C=>?_,Ch.trans k7 K ai⟩;rw [htk] at hu;rcases ar9.1 hu with h | h
     ·exact Q u h C
     ·rw [an9.1 h] at C; exact (W C).elim
   ·have hii:e.x.af.take i=e.x.af:=bo9 ad;rw [hii] at Q;have b7:=b6.aj k7 (by simp; omega);refine ay b7 ((e.p,e.l,e.c),(e.x.num:Int),()) (ak ?_);refine ay co7.bD (some k.gD,()) (ak ?_);obtain ⟨n7,m7⟩:=g.map;have hz7:=R.size;have hput:dB (λs=>(H s).map (·.x)) e.x=fy es v:=by
     show _=K0 (cE es) (dC es) (aU es) v;rw [hsol];refine re λt ht=>?_
     show (H t.1).map (·.x)=MA (cE es) (dC es) (aU es) t.1;unfold MA
     by_cases C:cE es t.1=true
     ·obtain ⟨y,hy⟩:=Q t ht C;rw [hy,ag9 C,ez9,(g.of _ _ hy).2.1]
     ·rw [ac9 C];cases hy:H t.1 with
      | none=>rfl
      | some y=>exact (C ((hown _).2 (g.of _ _ hy).1)).elim
    have L:∀ s y,H s=some y->y.x.af.length<=2^20:=λs y hy=>by
     obtain ⟨a,b,_⟩:=g.of s y hy;rw [b]; exact eo.F3 hc a
    refine aG (GQ (c:=e.c) (n h7 co7) m7 ad hts (λs y hy=>⟨by have:=L s y hy; omega,by
      obtain ⟨a,b,_⟩:=g.of s y hy;rw [b]; exact eo.Ov hc a⟩) ?_) ?_
    ·have:=rA (of:=λs=>(H s).map (·.x)) (B:=2^20) ad (λs y hy=>by
      cases hh:H s with
      | none=>simp only [hh] at hy; cases hy
      | some z =>
       simp only [hh,Option.map_some,Option.some.injEq] at hy;rw [<- hy]; exact L s z hh) e.x.af
     exact cd9 this (cd9 (cz9 _ hll) bH)
    ·rintro _ h8 ⟨⟨p',l',c',rfl,s8⟩,e8⟩;rw [hput] at s8 ⊢;refine ⟨((p',l',c'),((fy es v).num:Int),()),rfl,ak ?_⟩;have b8:=b7.aj e8 ai;refine bJ b8 ?_;intro h9 S k9 z9;have S:br h9 h3.size 53 [.slice p' l' c',.int .u32 ((fy es v).num:Int)]:=S;have hz8:=e8.size;have k79:Ch [h3.size] h7 h9:=Ch.trans (e8.mono ai) k9 (λj I _=>I);have U:Ch [k.gD] h h9:=Ch.trans (Ch.trans R e8 ai) k9 (λj I hl=>by simp at I; omega);have co9:=co.aj lo U;have hk7:=k7.size;have hz36:h3.size<h6.size:=ad
     have M:∀ s y,H s=some y->∀ i,i∈ax y.p->i≠h3.size/\i≠h.size/\i≠k.gD:=by
      intro s y hy i hi;have h1:=(g.of s y hy).2.2 i hi;rcases P s y hy with h | h
      ·have:=((dn.of s y h).2.2 i hi).2
       omega
      ·have:=h i hi
       omega
     have m9:Jy h9 k.gD H n7:=m7.aj k79 (by simp; omega) (λs y hy i hi=>by
      have:=(M s y hy i hi).1
      simpa using this)
     have s9:=s8.bf k9 (λi hi=>by have:=(s8.cj hi).1; simp; omega);refine ay co9.bD (some k.gD,()) (ak ?_);refine ay S ((p',l',c'),((fy es v).num:Int),()) (ak ?_);refine Pb m9.map hsv ⟨p',l',c',fy es v⟩ ?_;intro h10 m10 m z10;have b10:=S.aj m (by simp; omega);refine ay b10 ((p',l',c'),((fy es v).num:Int),()) (ak ?_);have b110:br h10 h.size 53 [.slice none 0 0,.int .u32 0]:=((((b1.aj F ai).aj e36 ai).aj k7 (by simp; omega)).aj k79 (by simp; omega)).aj m (by simp; omega);refine bJ b110 ?_;intro h11 b11 X z11;have b11:br h11 h.size 53 [.slice p' l' c',.int .u32 ((fy es v).num:Int)]:=b11;refine ay b11 ((p',l',c'),((fy es v).num:Int),()) ?_;have k011:Ch [k.gD] h h11:=Ch.trans (Ch.trans U m (λj I _=>I)) X (λj I hl=>by simp at I; omega);have hz9:=k79.size;refine ⟨⟨p',l',c',fy es v⟩,dW H v ⟨p',l',c',fy es v⟩,rfl,rfl,⟨⟨_,m10.aj X (by simp; omega),λs y hy=>?_⟩,λs y hy=>?_⟩,cK _ _ _,λs y hy=>?_,λs y hy=>?_,k011⟩
     ·by_cases hsv:s=v
      ·subst hsv;rw [cK] at hy;have hy:=bb9 hy;subst hy;exact ym ((s9.bf m (λi hi=>by have:=(s9.cj hi).1; simp; omega)).bf X (λi hi=>by have:=(s9.cj hi).1; simp; omega))
      ·rw [cn _ _ hsv] at hy;exact ((m9.fF s y hy).aj m (λi hi=>by have:=(M s y hy i hi).2.2; simpa using this)).aj X (λi hi=>by have:=(M s y hy i hi).2.1; simpa using this)
     ·by_cases hsv:s=v
      ·subst hsv;rw [cK] at hy;have hy:=bb9 hy;subst hy;refine ⟨hv,rfl,λi hi=>?_⟩
       have:=s9.cj hi
       omega
      ·rw [cn _ _ hsv] at hy;obtain ⟨a,b,c⟩:=g.of s y hy;refine ⟨a,b,λi hi=>?_⟩
       have:=c i hi
       omega
     ·have hne:s≠v:=λe=>by rw [e,hy0] at hy; cases hy
      rw [cn _ _ hne];exact sb7 s y hy
     ·by_cases hsv:s=v
      ·subst hsv;rw [cK] at hy;have hy:=bb9 hy;subst hy;refine .inr λi hi=>?_
       have:=s9.cj hi
       omega
      ·rw [cn _ _ hsv] at hy;rcases P s y hy with h | h
       ·exact .inl h
       ·refine .inr λi hi=>?_
        have:=h i hi
        omega
def rk {P:Program} {h:Hp} {L:Lp} {K:Xab->Hp->Prop} {k:Xac->Nat->Nat->T} {t n e:TypeId} {z:Xab} {sz by':Nat} (ht:P.underlying t=some (.slice e)) (d:(P.info? e).map (λi=>(i.zero,i.size,i.bytes))=some (some z,sz,by'))
  (o:z.cells.size=sz) {p:Xac} {l c:Nat} {ys:List (List Xab)} (g:(p=none/\ys=[])\/∃ a,p=some a/\aH h a 0 ys.flatten) (hl:l=ys.length) (r:∀ y,y∈ys->y.length=sz) (s:ys.flatten.all df=true) (u:(2*l+1024)*by'<=2^48) (w:l<=2^48)
  (hk:∀ p' c' h',SL h' h.size e sz p' l c' ys->Ext h h'->k p' l c' L K h') :
  T.dP P (Instr.buildSlice t 0 #[]) false [(false,[.slice 0])] (λq m C=>T.dP P (Builtin.append_ #[t,t] n #[.slice q m C,.slice p l c]) false [(false,[.slice 0])] k) L K h:=by
 obtain ⟨i,hi,E,rfl,rfl⟩:=oz d;refine dt ?_;unfold Instr.buildSlice;rw [an,az ht];simp only;rw [an,bT hi,cJ hi];rw [ac9 ad,ag9 ad];simp only [Nat.zero_mul,pure_bind];have F:∀ (f:Nat->Option (Nat × Nat)) (b:Array Xab),Instr.fill f b []=some b:=λf b=>rfl
 have G:Array.map (λx=>(#[]:Array Xab)[x % (#[]:Array Xab).size]!) (Array.range 0)=#[]:=ai
 rw [F,G];show ∃ N O Q,_/\_
 refine ⟨_,_,_,rfl,?_⟩;have D:SL (h.push (.cells #[] e)) h.size e i.size (some ⟨h.size,0,none⟩) 0 0 []:=⟨rfl,ai,h.size,[],[],rfl,am9 _,ad,br.new h e [],ai⟩
 have A:Ext h (h.push (.cells #[] e)):=Ext.push _ _;refine dt ?_;rcases g with ⟨rfl,rfl⟩ | ⟨a,rfl,hc⟩
 ·have B:l=0:=hl;subst B;simp [Builtin.append_,an,az ht,bT hi,Builtin.lenOf,Builtin.firstCells,storeCells];exact ⟨_,_,_,rfl,hk _ _ _ D A⟩
 ·have:=mI (P:=P) (h:=h.push (.cells #[] e)) (K:=λv h'=>∃ p l c,v=.slice p l c/\k p l c L K h') (ty:=n) (ys:=ys) ht hi E o D hl r (aP A ai _ _ hc) s (by simpa using u) (by simpa using w) ai (cc:=c) ?_
  ·exact this
  ·intro p' c' h2 H I J;rw [by9,cw9] at *;exact ⟨p',l,c',rfl,hk p' c' h2 H (Ch.trans A I λj M hl=>by simp [ax] at M; omega)⟩
def KK {us:dr} (v:iA O U H us):(U=none/\us.map cT=[])\/∃ a,U=some a/\aH O a 0 (us.map cT).flatten:=by
 cases U with
 | none =>
  left
  refine ⟨rfl,?_⟩;cases us with
  | nil=>rfl
  | cons u us =>
   obtain ⟨a,b,_⟩:=v.cells 0 ai;cases b
 | some a=>exact .inr ⟨a,rfl,v.flat⟩
def QO (us:dr):∀ y,y∈us.map cT->y.length=2:=by
 intro y a;obtain ⟨u,_,rfl⟩:=ap9.1 a;rfl
def Ix {c:Nat} {us:dr} (v:iA O U H us) (hl:us.length<=2^40) :
  HC Xaz 65 #[.slice U H c] O λw h'=>(∃ p' l' c',w=.slice p' l' c'/\SL h' O.size 64 2 p' l' c' (us.map cT))/\Ext O h':=by
 refine aX (args:=[.slice U H c]) mixed Tryz.func65 av (gQ U H c) ?_;unfold eJ bg bm;have hll:=v.len;cases U with
 | none =>
  rcases KK v with ⟨_,h2⟩ | ⟨a,b,_⟩
  ·refine bU rfl ?_;refine ⟨⟨none,0,0,rfl,?_⟩,Ch.refl _ _⟩;rw [h2];exact SL.nil _ _ _ _
  ·cases b
 | some a =>
  refine bX rfl ?_;refine rk (e:=64) (z:=.agg #[.string ⟨#[]⟩,.int .u32 0]) (sz:=2) (by':=24) A2 uY rfl (KK v) (by simpa using hll) (QO us) (Jm us) ad ad ?_;intro p' c' h' f g;exact ⟨⟨p',H,c',rfl,f⟩,g⟩
structure sM (h:Hp) (b:Nat) (p:Xac) (l c:Nat) (ms:List cV):Prop where
 out:SL h b 116 3 p l c (ms.map Bg)
 fF:∀ m,m∈ms->SL h b 64 2 m.p m.l m.c (m.x.af.map cT)
 ap:ms.Pairwise λx y=>∀ i,i∈ax x.p->∀ j,j∈ax y.p->i<j
 dj:∀ m,m∈ms->∀ j,j∈ax m.p->j∉ax p
def sM.aj {ws:List Nat} {h':Hp} {ms:List cV} (o:sM O H U V Z ms) (k:Ch ws O h') (a:∀ i,i∈ws->i<H\/O.size<=i):sM h' H U V Z ms :=
 ⟨o.out.bf k (λi hi O=>by have:=o.out.cj hi; have:=a i O; omega),λm d=>(o.fF m d).bf k (λi hi O=>by have:=(o.fF m d).cj hi; have:=a i O; omega),o.ap,o.dj⟩
def EE {ms:List cV} (o:sM O H U V Z ms):vQ O U V ms :=
 ⟨by rw [o.out.1,ab9],λi hi=>by
  obtain ⟨a,d,hc⟩:=o.out.cells (i:=i) (by simpa using hi);rw [aj9] at hc;exact ⟨a,d,hc⟩,λm e=>ym (o.fF m e)⟩
def DV:Tryz.prog.underlying 67=some (.slice 116):=av
def NC:(Tryz.prog.info? 116).map (λi=>(i.zero,i.size,i.bytes))=some (some (.agg #[.string ⟨#[]⟩,.slice none 0 0,.int .u32 0]),3,48):=av
def sM.push {h h1:Hp} {p':Xac} {l' c':Nat} {ms:List cV} (o:sM h H U V Z ms) {m:cV} (n:SL h H 64 2 m.p m.l m.c (m.x.af.map cT)) (d:∀ i,i∈ax m.p->(∀ y,y∈ms->∀ j,j∈ax y.p->j<i)/\i∉ax U)
  (q:SL h1 H 116 3 p' l' c' ((ms++[m]).map Bg)) (k:Ch (ax U) h h1) (r:∀ i,i∈ax p'->i∈ax U\/h.size<=i):sM h1 H p' l' c' (ms++[m]):=by
 have f:∀ y,y∈ms++[m]->∀ j,j∈ax y.p->j∉ax U/\j<h.size:=by
  intro y e j a;rcases ar9.1 e with h | h
  ·exact ⟨o.dj y h j a,((o.fF y h).cj a).2⟩
  ·rw [an9.1 h] at a;exact ⟨(d j a).2,(n.cj a).2⟩
 refine ⟨q,λy e=>?_,?_,λy e j a g=>?_⟩
 ·have hb:=f y e;rcases ar9.1 e with h | h
  ·exact (o.fF y h).bf k λi hi=>(hb i hi).1
  ·have h:=an9.1 h;subst h;exact n.bf k λi hi=>(hb i hi).1
 ·rw [fu9];refine ⟨o.ap,List.pairwise_singleton _ _,λy e z s i hi j a=>?_⟩;rw [an9.1 s] at a;exact (d j a).1 y e i hi
 ·have:=f y e j a
  rcases r j g with h | h
  ·exact this.1 h
  ·omega
structure aaZ (r:SF) (es:List cV) (i:Nat) (p:Xac) (l c:Nat) (f:Xaa->Option tE) (ms:List cV) (h:Hp):Prop where
 dn:Wp r h es f
 own:sM h (r.V+1) p l c ms
 ms:ms.map (λm=>(m.name,m.x))=(es.take i).map (λe=>(e.name,fy es e.name))
 dd:∀ s y,f s=some y->∀ j,j∈ax y.p->j∉ax p
def WB (es:List cV) (h:Hp) (w:Xab) (h':Hp):Prop :=
 (∃ i,∃ hi:i<es.length,lK (dG es) es[i].name/\(∀ j,(a:j<i)->¬ lK (dG es) es[j].name)/\w=.tuple #[.slice none 0 0,vI (i:Int),vI 24]) \/
 ((∀ v,¬ lK (dG es) v)/\∃ p' l' c' ms,w=.tuple #[.slice p' l' c',vI 0,vI 0]/\sM h' h.size p' l' c' ms/\ms.map (λm=>(m.name,m.x))=es.map (λe=>(e.name,fy es e.name)))
abbrev ZI:List ez:=[(false,[.slice 0]),(false,[.int .i64]),(false,[.int .i64]),(false,[.int .i64])]
def HH {p:Xac} {c:Nat} {es:List cV} (v:vQ O p H es) (X:vl es) (hp:∀ i,i∈ax p->i<O.size) (hlen:es.length<=2^20) :
  HC Xaz 37 #[.slice p H c] O λw h'=>WB es O w h'/\Ext O h':=by
 refine aX (args:=[.slice p H c]) mixed Tryz.func37 av (CK p H c) ?_;unfold zg aR aY bz aK cv ja bg dp aE bR bm bZ aS fH;have hown:=dY es;have hll:=v.len;refine bn ?_;intro h1 b1 e1 z1;refine ay b1 ((p,H,c),()) (ak ?_);refine aG (Kn (c:=c) (v.aj e1) X.toEqsOk (λi hi=>by have:=hp i hi; omega)) ?_;rintro _ h2 ⟨⟨g,n,rfl,mB,hg⟩,e2⟩;refine ⟨(some g,()),rfl,ak ?_⟩;have hback:=J3 (succ:=cU (dC es)) X.nodup (λs=>(hown s).1);generalize (IE (cE es) (cU (dC es)) (aU es)).back=back at mB hback;have b2:=b1.aj e2 ai;have e02:=e1.trans e2;refine ay b2 ((p,H,c),()) (ak ?_);refine aM (cs:=ZI) (λx w h'=>∃ i:Nat,x.2.2.2.1=(i:Int)/\i<=es.length/\w=es.length-i/\(∀ j,(d:j<i)->∀ hl:j<es.length,¬ lK (dG es) es[j].name)/\Ext h2 h') ((none,0,0),(0:Int),(0:Int),(0:Int),()) es.length rfl ⟨0,rfl,ad,ad,λj d=>ad,Ch.refl _ _⟩ ?_;rintro ⟨⟨p9,l10,l11⟩,n12,n13,n14,⟨⟩⟩ w h3 ⟨i,hi,hile,rfl,Y,e3⟩;simp only at hi;subst hi;refine ak ?_;have e03:=e02.trans e3;refine aI ?_ ?_<;>intro g1
 ·have q:i<es.length:=ad
  refine eS ?_;obtain ⟨a,ha,hc⟩:=(v.aj e03).cells i q;refine aF ha ?_;rw [cg i];have hes:∀ s,lK (dG es) es[i].name↔lK (dG es) es[i].name:=λs=>Iff.rfl
  generalize hee:es[i]=e at hc hes;refine ar (e.name,(e.p,e.l,e.c),(e.x.num:Int),()) hc (ak ?_);refine bn ?_;intro h4 b4 e4 z4;refine bJ b4 ?_;intro h5 b5 k5 z5;have b5:br h5 h3.size 116 [.string e.name,.slice e.p e.l e.c,.int .u32 e.x.num]:=b5;have Z:Ext h3 h5:=bS e4 k5;refine ay b5 (e.name,()) (ak ?_);refine Qb ((mB.aj e3 ai).aj Z ai) e.name ?_;refine ao ?_ ?_<;>intro K
  ·have K:(back e.name).getD false=true:=K;refine ⟨.inl ⟨i,q,?_,λj d=>Y j d ad,rfl⟩,e03.trans Z⟩;rw [hee];exact (hback _).1 K
  ·have K:(back e.name).getD false=false:=K;have hw:=gK i;refine aC (cs:=ZI) ((p9,l10,l11),n12,n13,((i+1:Nat):Int),()) (es.length-(i+1)) rfl ad (by rw [hw]; rfl) ⟨i+1,rfl,ad,rfl,λj d hl=>?_,e3.trans Z⟩
   by_cases hji:j=i
   ·subst hji;rw [hee];intro hc
    have:=(hback _).2 hc
    rw [K] at this; cases this
   ·exact Y j ad hl
 ·have hc:∀ v,¬ lK (dG es) v:=by
   intro s hs;obtain ⟨j,d,hjs⟩:=bh9 ((hown s).1 hs.VC);have hj':j<es.length:=by simpa [aU] using d
   have:es[j].name=s:=by rw [<- hjs]; simp [aU]
   exact Y j ad hj' (by rw [this]; exact hs)
  have b3:=b2.aj e3 ai;refine ay b3 ((p,H,c),()) (ak ?_);refine aG (Bv (v.aj e03) X.len X.nodup X.sz) ?_;rintro _ h4 ⟨⟨gA,rfl,mA,hgA⟩,e4⟩;refine ⟨(some gA,()),rfl,ak ?_⟩;have hgA4:=mA.lt;refine bn ?_;intro h5 b5 e5 z5;refine bJ b5 ?_;intro h6 b6 k6 z6;have b6:br h6 h4.size 105 [.map (some gA)]:=b6;have e46:Ext h4 h6:=bS e5 k6;refine zX (en:=eL) ?_;intro h7 m7 e7 z7;refine bn ?_;intro h8 b8 e8 z8;refine bJ b8 ?_;intro h9 b9 k9 z9;have b9:br h9 h7.size 165 [.map (some h6.size)]:=b9;have e79:Ext h7 h9:=bS e8 k9;refine bn ?_;intro h10 b10 e10 z10;refine bJ b10 ?_;intro h11 b11 k11 z11;have R:Ext h9 h11:=bS e10 k11;have e711:=e79.trans R;have e611:=e7.trans e711;have e411:=e46.trans e611;have e011:=(e03.trans e4).trans e411;have hz4:=e4.size;have hz3:=e3.size;have hz2:=e2.size;generalize hr:(⟨O.size,gA,h4.size,h6.size,h7.size,h9.size⟩:SF)=r;have ho:r.ord:=by
   subst hr;unfold SF.ord;dsimp only;omega
  have hrE:r.E=O.size:=by subst hr; rfl
  have hrV:r.V+1=h11.size:=by subst hr; dsimp only; omega
  have hrV':r.V=h9.size:=by subst hr; rfl
  have hrD:r.gD=h6.size:=by subst hr; rfl
  have co:Yt r h11 es p H c:=by
   subst hr;exact ⟨(b3.aj (e4.trans e411) ai),b6.aj e611 ai,⟨_,mA.aj e411 ai⟩,b11,b9.aj R ai,v.aj e011⟩
  have dn:Wp r h11 es (λ_=>none):=⟨⟨0,(by rw [hrD]; exact m7.aj e711 ai),λs y hy=>by cases hy⟩,λs y hy=>by cases hy⟩
  have lo:LoS r es p:=⟨ho,λi hi=>by rw [hrE]; exact hp i hi,λe he hne i hi=>by rw [hrE]; exact (v.fF e he).Yg hne i hi⟩
  have o':=ho;unfold SF.ord at o';rw [show (⟨O.size,0,none⟩:Xax)=bx r.E by rw [hrE],show (⟨h9.size,0,none⟩:Xax)=bx r.V by rw [hrV']];refine ay co.bE ((p,H,c),()) (ak ?_);refine aM (cs:=kX) (λx w h'=>∃ (i:Nat) (p':Xac) (l' c':Nat) (f:Xaa->Option tE) (ms:List cV),x.1=(p',l',c')/\x.2.1=(i:Int)/\i<=es.length/\w=es.length-i/\aaZ r es i p' l' c' f ms h'/\Ch [r.gD] h11 h')
   ((none,0,0),(0:Int),()) es.length rfl ⟨0,none,0,0,_,[],rfl,rfl,ad,ad,⟨dn,⟨SL.nil _ _ _ _,ai,List.Pairwise.nil,ai⟩,rfl,λs y hy=>by cases hy⟩,Ch.refl _ _⟩ ?_
  rintro ⟨⟨p26,L,l28⟩,n29,⟨⟩⟩ w C ⟨i,p',l',c',f,ms,hx,hi,hile,rfl,si,M⟩;simp only at hx hi;obtain ⟨rfl,rfl,rfl⟩:=hx;subst hi;refine ak ?_;have co12:=co.aj lo M;have hz12:=M.size;have hmsl:ms.length=i:=by have:=as9 List.length si.ms; simp at this; omega
  refine aI ?_ ?_<;>intro K
  ·have q:i<es.length:=ad
   refine eS ?_;obtain ⟨a,ha,hcc⟩:=co12.vw.cells i q;refine aF ha ?_;rw [cg i];have N:es.take (i+1)=es.take i++[es[i]]:=af9 q;have u:es[i].name∈aU es:=ay9 (ah9 q);generalize es[i]=e at hcc N u;refine ar (e.name,(e.p,e.l,e.c),(e.x.num:Int),()) hcc (ak ?_);refine bn ?_;intro h13 b13 e13 z13;refine bJ b13 ?_;intro h14 P k14 z14;have P:br h14 C.size 116 [.string e.name,.slice e.p e.l e.c,.int .u32 e.x.num]:=P;have o:Ext C h14:=bS e13 k14;have co14:=co12.aj lo (o.mono ai);have dn14:=si.dn.ext o;have own14:=si.own.aj o ai;refine ay co14.bV (.func (.func 63) #[] r.vB.toArray,()) (ak ?_);refine ay P (e.name,()) (ak ?_);refine pO (cap:=r.vB) WM rfl (PB X lo hc (aU es).length e.name (J9 hown hc u) u h14 f co14 dn14) ?_;rintro _ D ⟨y,f15,rfl,hyx,S,hfy,sb15,U,F⟩;refine ⟨((y.p,y.l,y.c),(y.x.num:Int),()),rfl,ak ?_⟩;have own15:=own14.aj F (λi hi=>.inl (by simp at hi; omega));have co15:=co14.aj lo F;have hz15:=F.size;have b15:=P.aj F (by simp; omega);obtain ⟨n15,m15⟩:=S.map;have hyv:=m15.fF _ y hfy;refine bn ?_;intro h16 b16 e16 z16;refine bJ b16 ?_;intro h17 G k17 z17;have G:br h17 D.size 53 [.slice y.p y.l y.c,.int .u32 (y.x.num:Int)]:=G;have t:Ext D h17:=bS e16 k17;have b1417:=b15.aj t ai;refine ay b1417 (e.name,()) (ak ?_);refine ay G ((y.p,y.l,y.c),()) (ak ?_);rw [aw];refine ay G ((y.x.num:Int),()) (ak ?_);have hyl:y.x.af.length<=2^20:=by rw [hyx]; exact X.F3 hc u
   refine aG (Ix (c:=y.c) (hyv.aj t ai) ad) ?_;rintro _ h18 ⟨⟨pc,lc,cc,rfl,sc⟩,Q⟩;refine ⟨((pc,lc,cc),()),rfl,ak ?_⟩;have e1518:=t.trans Q;have own18:=own15.aj e1518 ai;have b1418:=b1417.aj Q ai;have b1718:=G.aj Q ai;have dn18:=S.ext e1518;have hz17:=t.size;have hz18:=Q.size;have stB:∀ h',br h' C.size 116 [.string e.name,.slice e.p e.l e.c,.int .u32 e.x.num]->br h' D.size 53 [.slice y.p y.l y.c,.int .u32 (y.x.num:Int)]->T.Cv h' [(⟨D.size,0+1,none⟩,[.int .u32 (y.x.num:Int)]),(⟨D.size,0,none⟩,[.slice y.p y.l y.c]),(⟨C.size,0,none⟩,[.string e.name])] :=
    λh' b1 b2=>⟨b2.cells _ rfl,b2.cells _ rfl,b1.cells _ rfl,trivial⟩
   refine ⟨⟨b1718.cells _ rfl,b1418.cells _ rfl,trivial⟩,?_⟩;have hol:L=ms.length:=by rw [si.own.out.1,ab9]
   refine gz (vs:=Bg ⟨e.name,pc,lc,cc,y.x⟩) DV NC rfl ad ad av rfl rfl own18.out ad ad ad (λh' ex=>stB h' (b1418.aj ex ai) (b1718.aj ex ai)) ?_;intro p' c' h19 s19 A hp19;have B:∀ j,j∈ax p26->r.V<j/\j<C.size:=λj d=>by have:=si.own.out.cj d; omega
   refine ⟨stB h19 (b1418.aj A (λd=>by have:=B _ d; omega)) (b1718.aj A (λd=>by have:=B _ d; omega)),?_⟩;have hw:=gK i;have I:∀ j,j∈ax p'->j∈ax p26\/h18.size<=j:=by
    intro j d;rcases hp19 with O | ⟨a,O,hle⟩
    ·rw [O] at d; exact .inl d
    ·rw [O] at d; simp [ax] at d; subst d; exact .inr hle
   refine aC (cs:=kX) ((p',L+1,c'),((i+1:Nat):Int),()) (es.length-(i+1)) rfl ad (by rw [hw]; rfl)
    ⟨i+1,p',L+1,c',f15,ms++[⟨e.name,pc,lc,cc,y.x⟩],rfl,rfl,ad,rfl,⟨?_,?_,?_,λs z W j d J=>?_⟩,?_⟩
   ·obtain ⟨n18,m18⟩:=dn18.map;refine ⟨⟨n18,m18.aj A (λd=>by have:=B _ d; omega) (λs z W j d=>?_)⟩,λs z W=>?_⟩
    ·rcases U s z W with O | O
     ·exact si.dd s z O j d
     ·intro J
      have:=O j d
      have:=B j J
      have:=o.size
      omega
    ·obtain ⟨a,b,c⟩:=dn18.of s z W;refine ⟨a,b,λi hi=>?_⟩
     have:=c i hi
     have:=A.size
     omega
   ·refine own18.push (m:=⟨e.name,pc,lc,cc,y.x⟩) (sc.mono ad) (λj d=>?_) (by simpa using s19) A I;have hj2:=sc.cj d;refine ⟨λz W k hk=>?_,λJ=>?_⟩
    ·have:=((own15.fF z W).cj hk).2
     omega
    ·have:=B j J
     have:=o.size
     omega
   ·rw [ao9,si.ms,N,ao9];show _++[(e.name,y.x)]=_;rw [hyx] <;> rfl
   ·rcases I j J with O | O
    ·rcases U s z W with k | k
     ·exact si.dd s z k j d O
     ·have:=k j d
      have:=B j O
      have:=o.size
      omega
    ·have:=((dn18.of s z W).2.2 j d).2
     omega
   ·refine Ch.trans (Ch.trans (Ch.trans (Ch.trans M o ai) F (λj d _=>d)) e1518 ai) A (λj d hl=>?_)
    have:=(si.own.out.cj d).1
    omega
  ·have N:es.take i=es:=bo9 ad;have hms:=si.ms;rw [N] at hms;have hr11:=e011.size;refine ⟨.inr ⟨hc,p26,L,l28,ms,rfl,⟨si.own.out.mono ad,λm hm=>(si.own.fF m hm).mono ad,si.own.ap,si.own.dj⟩,hms⟩,Ch.trans e011 M (λj d hl=>?_)⟩;simp at d;omega
end Go.Sx
