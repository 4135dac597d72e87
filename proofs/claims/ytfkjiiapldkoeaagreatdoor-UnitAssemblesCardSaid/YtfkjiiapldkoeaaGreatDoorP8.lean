/- Contracts over heaps, part 8. Condition: as each statement says. -/
import Derived.Test.YtfkjiiapldkoeaaGreatDoorAvL
import Derived.Test.YtfkjiiapldkoeaaGreatDoorAobjShelf
import Derived.Test.YtfkjiiapldkoeaaGreatDoorBtL
import Derived.LaidEql
import Derived.Stop.Asserts
import Derived.RowKitTokens
import Derived.Lib.ItoaLen
import Derived.HandedShaped
import Derived.Shelf.Vars
import Derived.Test.YtfkjiiapldkoeaaGreatDoorTie
import Derived.Test.YtfkjiiapldkoeaaGreatDoorCards
import Derived.SevenTiedAt
set_option linter.all false
set_option maxRecDepth 100000
set_option maxHeartbeats 4000000
namespace Go.Sx.Ob
open Go.Proofs
def MY (s:XA) (h:Hp) (v:XB) (h':Hp):Prop:=Ext h h'/\∃ (a b c d:cH) (ev:XB),v=.tuple #[tC a b c d,ev]/\ke h' h.size a b c d (gZ (dW s)).1/\uJ h' ev (zd (dW s))
def LJ (s:XA) (h:Hp) (hl:Laid h) (tb:rE h) (m:Int) (hm:∀ W:World,W.heap=h->W.cell? ⟨2,0,none⟩=some (.int .i64 m)):HC Tryz.prog 10 #[.string s] h (MY s h):=by
 intro W hW
 subst hW
 refine callsIn_wide.1 ((LV W s hl tb m (hm W rfl)).mono ?_)
 rintro e w' ⟨a,b,c,d,ev,rfl,hU,hE,hB⟩
 exact ⟨_,rfl,⟨hB.os,hB.tape,hB.output⟩,⟨hB.size,fun i hi _=>hB.block i hi⟩,a,b,c,d,ev,rfl,hU,hE⟩
structure tX (u:pN):Prop where
 text:∀ x,x∈u.text->zt x
 data:∀ x,x∈u.data->zt x
 bU:∀ x,x∈u.bU->zZ x.2/\x.1.size<65536
 aP:∀ x,x∈u.aP->x.size<65536
 m1:u.text.length+u.data.length<=8192
 m2:u.bU.length<=4096
 m3:u.aP.length<=4096
def tX.z:tX vz:=⟨by simp [vz],by simp [vz],by simp [vz],by simp [vz],by simp [vz],by simp [vz],by simp [vz]⟩
def GQ {x:fG} {n:Nat} (hn:n<=65535) (g:Good x) (hx:x.ay.length<=n):zZ x :=
 ⟨ae,fun t ht=>⟨by have:=kU (g.zM t ht); omega,(g.nf.Ip t ht).2⟩,g.num⟩
def I8 {x:cd} {k n:Nat} (hn:n<=65535) (hr:dY x k=true) (g:Good x.e) (hx:Bd n x):zt x:=by
 refine ⟨GQ hn g hx,?_,?_⟩
 ·have z:z1 x=true->x.name.size<65536:=fun e=>by
   have e:x.name=ct:=OE e
   rw [e]; decide
  unfold dY at hr
  repeat' split at hr
  all_goals try simp only [Bool.and_eq_true] at hr
  ·have:=kU hr.1.1.1
   omega
  all_goals first | exact z hr.1.1.1 | exact z hr.1.1 | exact z hr.1.2 | exact z hr.1.1.1.2 | exact z hr.1.1.2 | (cases hr; done)
 ·have z:z2 x=true->Sm x.inst.op:=fun e=>by
   have e:x.inst=lm:=OE e
   rw [e]; unfold Sm lm; simp
  unfold dY at hr
  repeat' split at hr
  all_goals try simp only [Bool.and_eq_true] at hr
  ·exact z hr.1.1.2
  ·have h1:=hr.1.1.2
   unfold AJ at h1
   simp only [Bool.and_eq_true] at h1
   exact Lj (OE h1.1.1)
  all_goals first | exact z hr.1.1.1.2 | exact z hr.1.1.2 | exact z hr.1.2 | exact z hr.2 | (cases hr; done)
theorem rT:∀ (l d:List XA),(l.foldl (fun d s=>jJ s d) d).length<=d.length+l.length
 | [],d=>aj
 | s::l,d=>by
  have h:=rT l (jJ s d)
  have h2:(jJ s d).length<=d.length+1:=yn s d
  simp only [List.foldl_cons,List.length_cons]
  omega
theorem zm:∀ (l:List XA) (w w':eS) (n:Nat),fV w n l=.ok w'->w'.bU.length<=w.bU.length+l.length/\w'.aP.length<=w.aP.length+l.length
 | [],w,w',n,h=>by
  simp only [fV] at h
  injection h with h
  subst h
  exact ⟨aj,aj⟩
 | s::l,w,w',n,h=>by
  simp only [fV] at h
  split at h
  ·cases h
  ·rename_i w1 h1
   have ih:=zm l w1 w' (n+1) h
   have h2:=tn h1
   simp only [List.length_cons]
   omega
def Ll {src:XA} (hs:src.size<=60000) {u:pN} (h:dW src=.ok u):tX u:=by
 unfold dW at h
 split at h
 ·cases h
 rename_i hsz
 split at h
 ·cases h
 rename_i hl
 split at h
 ·cases h
 rename_i w hw
 have W:=Et _ _ _ _ (fun s hs=>by have:=gO src s hs; omega) yq.z hw
 have S:=EN (n:=60001) (cK src) cZ w 1 (fun s hs'=>by have:=gO src s hs'; omega) ⟨by simp [cZ],by simp [cZ],by simp [cZ]⟩ hw
 have L:=zm _ _ _ _ hw
 have hm:=W.many
 split at h
 ·cases h
 injection h with h
 subst h
 refine ⟨fun x hx=>I8 ae (W.text x hx).1 (W.text x hx).2 (S.text x hx),fun x hx=>I8 ae (W.data x hx).1 (W.data x hx).2 (S.data x hx),fun x hx=>⟨GQ ae (W.bU x hx).2 (S.bU x hx),by have:=kU (W.bU x hx).1; omega⟩,fun x hx=>?_,by simp only; omega,?_,?_⟩
 ·simp only at hx
  rw [nk] at hx
  obtain ⟨g,hg1,rfl⟩:=Pa.1 hx
  have:=kU (W.aP g hg1)
  omega
 ·have:cZ.bU.length=0:=rfl
  simp only
  omega
 ·have h0:cZ.aP.length=0:=rfl
  have:=rT (w.aP.map (·.1)) []
  simp only [List.length_map,List.length_nil] at this
  simp only
  unfold cQ
  omega
def Iu {src:XA} (hs:src.size<=60000):tX (gZ (dW src)).1:=by
 cases h:dW src with
 | error q=>exact tX.z
 | ok u=>exact Ll hs h
def ke.own {h:Hp} {b:Nat} {a b' c d:cH} {u:pN} (U:ke h b a b' c d u) (z:tX u):DN h b a b' c d u/\OA a b':=by
 obtain ⟨ut,ud,ue,ow,C,S⟩:=U
 have l1:=O7 List.length C.t3
 have l2:=O7 List.length C.d3
 have l3:=O7 List.length C.e3
 rw [OI] at l1 l2 l3
 have m1:=z.m1
 have m2:=z.m2
 have m3:=z.m3
 refine ⟨⟨⟨ut,C.t3,ae,C.t1,C.t2,fun x hx=>z.text _ (by rw [<- C.t3]; exact PO hx)⟩,⟨ud,C.d3,ae,C.d1,C.d2,fun x hx=>z.data _ (by rw [<- C.d3]; exact PO hx)⟩,⟨ue,C.e3,ae,C.e1,C.e2,fun x hx=>z.bU _ (by rw [<- C.e3]; exact PO hx)⟩,⟨u.aP.map (fun x=>(fA,x)),by rw [Ph]; exact List.map_id _,by rw [OI]; omega,?_,?_,?_⟩⟩,?_⟩
 ·have h1:(u.aP.map (fun x=>(fA,x))).map (fun (u:cH × XA)=>[Value.string u.2])=u.aP.map Nj:=by rw [Ph]; rfl
  show SL h b 9 1 d.p d.l d.c ((u.aP.map (fun x=>(fA,x))).map (fun (u:cH × XA)=>[Value.string u.2]))
  rw [h1]
  exact S
 ·intro x hx
  obtain ⟨y,hy,rfl⟩:=Pa.1 hx
  exact SL.nil _ _ _ _
 ·intro x hx
  obtain ⟨y,hy,rfl⟩:=Pa.1 hx
  exact z.aP y hy
 ·intro i hi hj
  have h1:=C.o3 i hi
  have h2:=C.o4 i hj
  omega
def ke.at {h:Hp} {b:Nat} {a b' c d:cH} {u:pN} (U:ke h b a b' c d u) (z:tX u):sj h a b' c d u:=(U.own z).1.at
def Gd {k:Nat} {ts:List Tok} {e:Nat} (w:Wf ts) (h:pf k ts=.error e):e=20\/e=21:=by
 unfold pf at h
 split at h
 ·split at h
  ·rename_i he
   injection h with h
   subst h
   exact ff w he
  ·cases h
 ·split at h
  ·rename_i he
   injection h with h
   subst h
   exact dC w he
  ·cases h
theorem sR {k:Nat} {e:Nat}:∀ (l:List (List Tok)),(∀ a,a∈l->Wf a)->cL k l=.error e->e=20\/e=21
 | [],w,h=>by cases h
 | t::ts,w,h=>by
  simp only [cL] at h
  split at h
  ·rename_i he
   injection h with h
   subst h
   exact Gd (w t aj) he
  ·split at h
   ·rename_i he
    injection h with h
    subst h
    exact sR ts (fun a ha=>w a (by simp [ha])) he
   ·cases h
def Ms {args:List (List Tok)} (hw:∀ a,a∈args->Wf a) (wn:Wf []) (i:Nat):Wf (ag args i):=by
 unfold ag
 rw [OV]
 cases h:args[i]? with
 | none=>exact wn
 | some a=>exact hw a (List.mem_of_getElem? h)
def Hn {op:XA} {args:List (List Tok)} {e:Nat} (hw:∀ a,a∈args->Wf a) (wn:Wf []) (h:dI op args=.error e):e=20\/e=21:=by
 unfold dI at h
 simp only at h
 have g:=Ms hw wn
 split at h
 ·injection h with h; exact .inl h.symm
 split at h
 ·cases h
 split at h
 ·split at h
  ·rename_i he
   injection h with h
   subst h
   exact ff (g 0) he
  ·split at h
   ·cases h
   ·injection h with h; exact .inr h.symm
 split at h
 ·split at h
  ·rename_i he
   injection h with h
   subst h
   exact ff (g 0) he
  ·cases h
 split at h
 ·split at h
  ·injection h with h; exact .inl h.symm
  ·split at h
   ·rename_i he
    injection h with h
    subst h
    exact sR _ hw he
   ·cases h
 split at h
 ·split at h
  ·injection h with h; exact .inl h.symm
  ·split at h
   ·rename_i he
    injection h with h
    subst h
    exact sR _ hw he
   ·cases h
 split at h
 ·split at h
  ·rename_i he
   injection h with h
   subst h
   exact .inl (mw he)
  ·split at h
   ·rename_i he
    injection h with h
    subst h
    exact dC (g 1) he
   ·cases h
 split at h
 ·split at h
  ·rename_i he
   injection h with h
   subst h
   exact .inl (mw he)
  ·cases h
 ·split at h
  ·split at h
   ·cases h
   ·split at h
    ·cases h
    ·injection h with h; exact .inl h.symm
  ·injection h with h; exact .inl h.symm
def Ag {l:Ln} {d:Bool} {e:Nat} (hw:∀ a,a∈l.args->Wf a) (wn:Wf []) (h:eL l d=.error e):e=20\/e=21:=by
 unfold eL at h
 split at h
 ·cases h
 split at h
 ·split at h
  ·rename_i he
   injection h with h
   subst h
   exact vF hw he
  ·split at h
   ·injection h with h; exact .inr h.symm
   ·cases h
 ·split at h
  ·rename_i he
   injection h with h
   subst h
   exact Hn hw wn he
  ·rename_i t w he
   by_cases hc:w=2\/w=(if d then 1 else 0)
   ·rw [OH hc] at h; cases h
   ·rw [OG hc] at h; injection h with h; exact .inr h.symm
theorem Ce (s:XA):∀ (f k:Nat) (acc:List Tok),(jr s f k acc).2.2<=20
 | 0,k,acc=>by simp [jr]
 | f+1,k,acc=>by
  simp only [jr]
  split
  ·simp
  ·simp
  ·exact Ce s f _ _
def D6 (s:XA):(bi s).2.2<=20:=by
 have ht:∀ (n:Nat) (lb:XA) (us:List Tok),(bS n lb us).2.2<=20:=by
  intro n lb us
  unfold bS
  split
  ·simp
  ·split
   ·simp
   ·split <;> simp
 unfold bi ga
 split
 ·exact Ce s _ _ _
 ·split
  ·exact ht _ _ _
  ·exact ht _ _ _
def FH {w:eS} {n e:Nat} {s:XA} (hs:s.size<=2^20) (h:eJ w n s=.error e):e<100:=by
 unfold eJ at h
 have p:=D6 s
 split at h
 ·injection h with h; omega
 split at h
 ·injection h with h; omega
 split at h
 ·rename_i he
  injection h with h
  subst h
  have f:=fN s hs
  have:=Ag (fun a ha=>(f a ha).1) (fun t ht=>by cases ht) he
  omega
 split at h
 ·injection h with h; omega
 split at h
 ·injection h with h; omega
 ·cases h
theorem Dh:∀ (l:List XA) (w:eS) (n:Nat) (q:Nat × Nat),(∀ s,s∈l->s.size<=2^20)->fV w n l=.error q->q.2<100
 | [],w,n,q,_,h=>by cases h
 | s::l,w,n,q,hs,h=>by
  simp only [fV] at h
  split at h
  ·rename_i e he
   injection h with h
   subst h
   exact FH (hs s aj) he
  ·exact Dh l _ _ q (fun x hx=>hs x (by simp [hx])) h
def Ea {s:XA} {q:Nat × Nat} (h:dW s=.error q):q.1<=2^60/\q.2<10^18:=by
 unfold dW at h
 split at h
 ·injection h with h
  subst h
  exact ⟨bO,bO⟩
 rename_i hsz
 split at h
 ·injection h with h
  subst h
  exact ⟨bO,bO⟩
 rename_i hl
 have hls:∀ x,x∈cK s->x.size<=2^20:=fun x hx=>by have:=gO s x hx; omega
 split at h
 ·rename_i he
  injection h with h
  subst h
  have h1:=Dh _ _ _ _ hls he
  have h2:=C' _ _ _ _ he
  exact ⟨ae,ae⟩
 ·rename_i w hw
  split at h
  ·rename_i g hg
   injection h with h
   subst h
   have hm:=List.mem_of_find?_eq_some hg
   rcases yz _ _ _ _ hw g hm with h3 | h3
   ·simp [cZ] at h3
   ·exact ⟨by simp only; omega,show 23<10^18 from bO⟩
  ·cases h
def zu {s:XA} {q:Nat × Nat} (h:zd (dW s)=some q):q.1<=2^60/\q.2<10^18:=by
 cases hh:dW s with
 | error e =>
  rw [hh] at h
  injection h with h
  subst h
  exact Ea hh
 | ok u=>rw [hh] at h; cases h
end Go.Sx.Ob
namespace Go.Proofs.YtfkjiiapldkoeaaGreatDoor
open Go.RowKit Go.Extern.Stop Go.Stop Go.Extern Go.Sx
def HV (v:XB) (w:World):(Extern.ReflectliteType.typeOf #[.iface 44 v]).run Tryz.prog w=.ok (.iface 163 (.agg #[.pointer (some ⟨8,44,none⟩)])) w:=aB
def AX (w : World) : ((Extern.ReflectliteType.method fun t => do Extern.Rtype.noPackHeld "Comparable" t; (fun a => Value.bool a.comparable) <$> typeInfo t) #[.agg #[.pointer (some ⟨8, 44, none⟩)]]).run Tryz.prog w = .ok (.bool true) w :=aB
def sw (v : XB) (w : World) : (Go.method 442 163 v "Comparable").run Tryz.prog w = .ok (226, v) w :=aB
def MU (v:XB) (xT:TypeId) (w:World):(Instr.typeAssert (.iface 59 v) xT 197 true).run Tryz.prog w=.ok (.tuple #[.nilIface,.bool false]) w:=run_typeAssert_lacksB Tryz.underlying197 aB aB v xT w
def Me (v:XB) (xT:TypeId) (w:World):(Instr.typeAssert (.iface 44 v) xT 197 true).run Tryz.prog w=.ok (.tuple #[.nilIface,.bool false]) w:=run_typeAssert_lacksB Tryz.underlying197 aB aB v xT w
def DV (v:XB) (xT:TypeId) (w:World):(Instr.typeAssert (.iface 59 v) xT 170 true).run Tryz.prog w=.ok (.tuple #[.iface 59 v,.bool true]) w:=run_typeAssert_hasB Tryz.underlying170 aB v xT w
def Bh (v : XB) (w : World) : (Go.method 442 59 v "Unwrap").run Tryz.prog w = .ok (39, v) w :=aB
def ND (n m:Int) (w:World):(binOp .eql 29 (.iface 44 (.int .i64 n)) (.iface 44 (.int .i64 m))).run Tryz.prog w=.ok (.bool (n==m)) w:=aB
def Ou (n:Int) (w:World):(binOp .eql 29 (.iface 44 (.int .i64 n)) (.iface 44 (.int .i64 n))).run Tryz.prog w=.ok (.bool true) w:=by rw [ND]; simp
def Im (a:Nat) (n:Int) (w:World) (h1:w.cell? ⟨a,0+1,none⟩=some (.int .i64 n)) :
  Calls Tryz.prog 40 #[.iface 59 (.pointer (some ⟨a,0,none⟩)),.iface 44 (.int .i64 n)] w fun e w'=>e=.returned (.bool true)/\w'=w:=by
 have h8:=@run_callFunc_extern Tryz.prog 73 _ Extern.ReflectliteType.typeOf Tryz.func73 aB aB aB aB
 have h32 := @run_callFunc_extern Tryz.prog 226 _ (Extern.ReflectliteType.method fun t => do Extern.Rtype.noPackHeld "Comparable" t; pure (.bool (<- typeInfo t).comparable)) Tryz.func226 aB aB aB aB
 have tT:=HV
 have cT:=AX
 have mR:=sw
 have nE:=MU
 have nW:=Me
 have uW:=DV
 have mU:=Bh
 have heq:=Ou n w
 have hty:=run_eql_iface_types (P:=Tryz.prog) 59 44 (.pointer (some ⟨a,0,none⟩)) (.int .i64 n) Tryz.underlying29 bO w
 go_enter Tryz.func40,Tryz.ntmps40
 go_wp2
 refine wp_loop_rounds 2 ?_
 rw [rounds_succ]
 go_wp2
 rw [rounds_succ]
 go_wp2
 go_ret
 exact ⟨rfl,rfl⟩
end Go.Proofs.YtfkjiiapldkoeaaGreatDoor
namespace Go.Sx.Ob
open Go.Proofs
def SL.flat {h:Hp} {b:Nat} {e:TypeId} {sz:Nat} {a:XC} {l c:Nat} {xs:List (List XB)} (s:SL h b e sz (some a) l c xs):bk h a 0 xs.flatten:=by
 obtain ⟨g,pre,rest,rfl,hbg,hlc,hbox,hr⟩:=s.2.2
 refine hbox.cells _ ?_
 rw [PV,Qc]
def rV (h:Hp):Prop:=∃ e f,h[3]?=some (.cells (Lib.pow10Tab.map fun z=>Value.int .u64 z).toArray e f)
def rV.an {ws:List Nat} {h h':Hp} (p:rV h) (k:Ch ws h h') (hw:3∉ws):rV h':=by
 obtain ⟨e,f,hp⟩:=p
 exact ⟨e,f,k.get hp hw⟩
def L4 {W:World} {name:String} (hg:Tryz.prog.globalNamed name=some 3) (p:rV W.heap):Lib.TabIs Tryz.prog W name .u64 Lib.pow10Tab:=by
 obtain ⟨e,f,hp⟩:=p
 unfold Lib.TabIs World.var?
 rw [hg]
 show (match W.heap[3]? with | some (.cells cs _ _)=>some cs | _=>none)=_
 rw [hp]
def Kr {h:Hp} (p:rV h) (n:Nat) (hn:n<=2^60):HC Tryz.prog 71 #[.int .i64 n] h fun v h'=>∃ s:XA,v=.string s/\s.size<=1000/\Ext h h':=by
 intro W hW
 subst hW
 refine (Tryz.strconv_Itoa n ae ae W (L4 aB p)).mono ?_
 rintro e w' ⟨he,k,os,rfl⟩
 refine ⟨_,he,⟨rfl,rfl,rfl⟩,_,rfl,?_,?_⟩
 ·show (Lib.itoa (n:Int)).toArray.size<=1000
  have:=Lib.itoa_length_le (n:Int) ae ae
  simp
  omega
 ·refine ⟨by show W.heap.size<=(W.heap++os).size; simp,fun i hi _=>?_⟩
  show (W.heap++os)[i]?=_
  rw [Array.getElem?_append_left hi]
def L0:Tryz.prog.underlying 42=some (.slice 5):=aB
def MN:Tryz.prog.underlying 5=some (.int .u8):=aB
def MB:Tryz.prog.underlying 9=some .string:=aB
def HY {L:Lp} {K:XB->Hp->Prop} {h:Hp} {b:Nat} {p:Option XC} {l c:Nat} {bs:List UInt8} {k:XA->T} (s:SL h b 5 1 p l c (Bf bs)) (h0:bs≠[]) (hk:k ⟨bs.toArray⟩ L K h) :
  T.fb Tryz.prog (convert 42 9 (.slice p l c)) false [(false,[.string])] k L K h:=by
 show aV Tryz.prog (convert 42 9 (.slice p l c)) h _
 unfold convert
 rw [aD,aL L0,aD,aL MB]
 show aV Tryz.prog (do match <- underlying 5 with
  | .int .u8=>Conv.bytesToString (.slice p l c)
  | .int .i32=>Conv.runesToString (.slice p l c)
  | _ => stuck "Convert: a slice of what to string?") h _
 rw [aD,aL MN]
 cases p with
 | none =>
  have h1:Bf bs=[]:=s.2.2.2
  have:bs=[]:=by simpa [Bf] using h1
  exact absurd this h0
 | some a =>
  have hl:l=bs.length:=by rw [s.1,xR]
  subst hl
  have hf:=SL.flat s
  rw [CE] at hf
  exact Fv a bs c _ hf ⟨(⟨bs.toArray⟩,()),rfl,hk⟩
def LK (n:Nat):IntKind.wrap .u8 (IntKind.wrap .i64 ((48:Int)+(Int.tmod (n:Int) (10:Int))))=((UInt8.ofNat (48+n % 10)).toNat:Int):=by
 have e:Int.tmod (n:Int) 10=((n % 10:Nat):Int):=by
  rw [Int.tmod_eq_emod_of_nonneg ae]
  rfl
 rw [e,wrap_i64 ae ae,wrap_u8 ae ae]
 simp
 omega
def Cz {P:Program} {h:Hp} {t ty e:TypeId} {i:TypeInfo} (ht:P.underlying t=some (.slice e)) (hi:P.info? e=some i) (a:XC) (l:Nat) (K:XB->Hp->Prop) (hk:K (.slice (some a) l l) h) :
  aV P (Builtin.append_ #[t,t] ty #[.slice (some a) l l,.slice none 0 0]) h K:=by
 simp [Builtin.append_,aD,aL ht,bV hi,eC hi,Builtin.lenOf,Builtin.firstCells]
 rw [kH]
 exact hk
def Ja (h:Hp) (n:Nat) (hn:n<10^18):HC Tryz.prog 72 #[.int .i64 n] h fun v h'=>∃ s:XA,v=.string s/\s.size<=1000/\Ext h h':=by
 refine ba (args:=[.int .i64 n]) mixed Tryz.func72 aB (oQ n) ?_
 unfold jP aR dh aH aI aQ gK
 refine ai (fun _=>⟨_,rfl,bO,Ch.refl _ _⟩) (fun _=>?_)
 refine ai (fun _=>⟨_,rfl,bO,Ch.refl _ _⟩) (fun _=>?_)
 refine ai (fun _=>⟨_,rfl,bO,Ch.refl _ _⟩) (fun _=>?_)
 refine ai (fun _=>⟨_,rfl,bO,Ch.refl _ _⟩) (fun _=>?_)
 refine aW (by rw [decide_eq_false_iff_not]; omega) ?_
 refine bJ (cs:=[(false,[.int .i64]),(false,[.slice 0])]) (fun y m h'=>∃ (k:Nat) (bs:List UInt8) (p:Option XC) (c:Nat),y=((k:Int),(p,bs.length,c),())/\m=k+(if bs=[] then 1 else 0)/\bs.length<=20/\k<=n/\k<10^(20-bs.length)/\SL h' h.size 5 1 p bs.length c (Bf bs)/\Ext h h') ((n:Int),(none,0,0),()) (n+1) rfl
  ⟨n,[],none,0,rfl,rfl,aj,OP _,PE hn (Pm ae aj),SL.nil _ _ _ _,Ch.refl _ _⟩ ?_
 rintro ⟨n6,⟨p7,l8,l9⟩,⟨⟩⟩ m h1 ⟨k,bs,p,c,hy,hm,hbl,hkn,hkl,sl,e1⟩
 cases hy
 refine ao ?_
 have hz1:=e1.size
 have step:(0<k\/bs=[])->(T.need ((10:Int)≠(0:Int)) <|
    T.fb Tryz.prog (Instr.buildSlice 42 1 #[(0,.int .u8 (IntKind.wrap .u8 (IntKind.wrap .i64 ((48:Int)+(Int.tmod (k:Int) (10:Int))))))]) false [(false,[.slice 0])] fun (p5:Option XC) (l6:Nat) (l7:Nat) =>
    T.fb Tryz.prog (Builtin.append_ #[42,42] 42 #[.slice p5 l6 l7,.slice p7 bs.length l9]) false [(false,[.slice 0])] fun (p8:Option XC) (l9:Nat) (l10:Nat) =>
    T.need ((10:Int)≠(0:Int)) <|
    T.again 0 [.int .i64 (IntKind.wrap .i64 (Int.tdiv (k:Int) (10:Int))),.slice p8 l9 l10]) [Jl (cs:=[(false,[.int .i64]),(false,[.slice 0])]) (fun y m h'=>∃ (k:Nat) (bs:List UInt8) (p:Option XC) (c:Nat),y=((k:Int),(p,bs.length,c),())/\m=k+(if bs=[] then 1 else 0)/\bs.length<=20/\k<=n/\k<10^(20-bs.length)/\SL h' h.size 5 1 p bs.length c (Bf bs)/\Ext h h') m] (fun v h'=>∃ s:XA,v=.string s/\s.size<=1000/\Ext h h') h1:=by
  intro hs
  have hk20:bs.length<20:=by
   rcases hs with hs | hs
   ·by_cases g:bs.length<20
    ·exact g
    ·have:20-bs.length=0:=ae
     rw [this] at hkl
     simp at hkl
     omega
   ·rw [hs]; simp
  refine aC bO ?_
  rw [LK]
  refine eM HP Oo ae ae (Mg ((UInt8.ofNat (48+k % 10)).toNat:Int)) ?_
  intro h2 b2 e2 z2
  have s2:SL h2 h1.size 5 1 (some ⟨h1.size,0,none⟩) 1 1 (Bf [UInt8.ofNat (48+k % 10)]) :=
   ⟨rfl,Fb _,h1.size,[],[],rfl,OP _,⟨ae,ae⟩,b2,aj⟩
  have sl2:=sl.an e2 aj
  obtain ⟨i5,hi5,hz5,hs5,hb5⟩:=nI Oo
  have fin:∀ (bs':List UInt8) (p':Option XC) (c':Nat) (h3:Hp),bs'=UInt8.ofNat (48+k % 10)::bs->SL h3 h1.size 5 1 p' bs'.length c' (Bf bs')->Ext h1 h3->(T.need ((10:Int)≠(0:Int)) <|
    T.again 0 [.int .i64 (IntKind.wrap .i64 (Int.tdiv (k:Int) (10:Int))),.slice p' bs'.length c']) [Jl (cs:=[(false,[.int .i64]),(false,[.slice 0])]) (fun y m h'=>∃ (k:Nat) (bs:List UInt8) (p:Option XC) (c:Nat),y=((k:Int),(p,bs.length,c),())/\m=k+(if bs=[] then 1 else 0)/\bs.length<=20/\k<=n/\k<10^(20-bs.length)/\SL h' h.size 5 1 p bs.length c (Bf bs)/\Ext h h') m] (fun v h'=>∃ s:XA,v=.string s/\s.size<=1000/\Ext h h') h3:=by
   intro bs' p' c' h3 hbs s3 e3
   refine aC bO ?_
   have hdiv:Int.tdiv (k:Int) (10:Int)=((k / 10:Nat):Int):=by
    rw [Int.tdiv_eq_ediv_of_nonneg ae]
    rfl
   rw [hdiv,wrap_i64 ae ae]
   refine aY (cs:=[(false,[.int .i64]),(false,[.slice 0])]) (((k / 10:Nat):Int),(p',bs'.length,c'),()) (k / 10) rfl ?_ rfl ?_
   ·rw [hm]
    rcases hs with hs | hs
    ·omega
    ·rw [OH hs]; omega
   ·refine ⟨k / 10,bs',p',c',rfl,?_,?_,ae,?_,s3.mono ae,e1.trans e3⟩
    ·rw [OG (by rw [hbs]; simp)]; rfl
    ·rw [hbs]; simp; omega
    ·rw [hbs,Pg]
     have:10^(20-bs.length)=10^(20-(bs.length+1))*10:=by
      rw [<- Nat.pow_succ]
      congr 1
      omega
     rw [this] at hkl
     omega
  have hl7:bs.length=(Bf bs).length:=(xR bs).symm
  cases p7 with
  | none =>
   have hb1:Bf bs=[]:=sl2.2.2.2
   have hb3:l9=0:=sl2.2.2.1
   have:bs=[]:=by simpa [Bf] using hb1
   subst this hb3
   refine dE (Cz HP hi5 _ 1 _ ?_)
   exact ⟨_,1,1,rfl,fin [UInt8.ofNat (48+k % 10)] _ 1 h2 rfl s2 e2⟩
  | some a7 =>
   refine dE (rc (i:=i5) HP hi5 hz5 (by rw [hs5]; rfl) (by rw [hs5]; exact s2) (ys:=Bf bs) hl7 (by rw [hs5]; exact Fb bs) (SL.flat sl2) (FY bs) (by rw [hb5]; omega) ae ae ?_)
   intro p' c' h3 s3 k3 hp'
   refine ⟨p',1+bs.length,c',rfl,?_⟩
   have hlen:1+bs.length=(UInt8.ofNat (48+k % 10)::bs).length:=by simp; omega
   rw [hlen]
   refine fin _ p' c' h3 rfl ?_ (e2.st k3 (OP _))
   rw [<- hlen]
   rw [hs5] at s3
   exact s3
 refine ai (fun q=>?_) (fun q=>?_)
 ·have q:=OE q
  exact step (.inl ae)
 ·refine ai (fun w=>?_) (fun w=>?_)
  ·have w:bs.length=0:=fe w
   exact step (.inr (OQ w))
  ·have w:¬ bs.length=0:=fy w
   refine HY sl (fun e=>w (by rw [e]; rfl)) ?_
   have hsz:(⟨bs.toArray⟩:XA).size=bs.length:=by show bs.toArray.size=_; simp
   refine aC (by rw [hsz]; omega) ?_
   refine ⟨_,rfl,?_,e1⟩
   rw [P0,hsz]
   show 8+bs.length<=1000
   omega
end Go.Sx.Ob
namespace Go.Sx
open Go.Proofs
def ir (a:XB) (b:Int) (c:Int):T :=
 T.new [.int .i64 b,.int .i64 c] 33 fun (d:XC) =>
 T.ah (d.add 1) [.int .i64] fun (e:Int) =>
 cond (e==(0:Int))
 (bR (Sx.df (BinOp.eql) 29 (Operand.tmp 10) (Operand.const Value.nilIface) a .nilIface) fun (f:Bool) =>
 T.ret (.bool f))
 (dh (Instr.typeAssert a 29 59 true) true [(false,[.pointer 63]),bZ] fun (f:Option XC) (g:Bool) =>
 cond g
  (cond (!(/-?Option.isSome.match_1-/ match f with
  | some val=>false
  | none=>true))
  (T.aA f fun (h:XC) =>
  T.ah h [.int .i64] fun (i:Int) =>
  T.ah d [.int .i64] fun (j:Int) =>
  cond (i==j)
   (T.aA f fun (k:XC) =>
   T.ah (k.add 1) [.int .i64] fun (l:Int) =>
   T.ah (d.add 1) [.int .i64] fun (m:Int) =>
   cond (l==m)
   (uG 37 [.pointer f] fun (n:XA) =>
   T.aT [((d.add 1),[.int .i64 m]),((k.add 1),[.int .i64 l]),(d,[.int .i64 j]),(h,[.int .i64 i])] <|
   cond (!((ByteArray.toList n)==[]))
    (T.aA f fun (o:XC) =>
    T.ah (o.add 1) [.int .i64] fun (p:Int) =>
    aS 39 [.pointer f] false [(false, [.interface #[("Error", 85)]])] fun (q : XB) =>
    T.aT [((o.add 1),[.int .i64 p]),((d.add 1),[.int .i64 m]),((k.add 1),[.int .i64 l]),(d,[.int .i64 j]),(h,[.int .i64 i])] <|
    aN 38 [q,.iface 44 (.int .i64 p)] fun (r:Bool) =>
    T.aT [((o.add 1),[.int .i64 p]),((d.add 1),[.int .i64 m]),((k.add 1),[.int .i64 l]),(d,[.int .i64 j]),(h,[.int .i64 i])] <|
    cond r
    (T.ah (d.add 1) [.int .i64] fun (s:Int) =>
    aN 40 [a,.iface 44 (.int .i64 s)] fun (t:Bool) =>
    T.aT [((d.add 1),[.int .i64 s]),((o.add 1),[.int .i64 p]),((d.add 1),[.int .i64 m]),((k.add 1),[.int .i64 l]),(d,[.int .i64 j]),(h,[.int .i64 i])] <|
    T.ret (.bool t))
    bE)
    bE)
   bE)
   bE)
  bE)
  bE)
def lC (a:XB) (b:Int) (c:Int):bD Tryz.prog [] Tryz.f12 [a,.agg #[.int .i64 b,.int .i64 c]]=ir a b c:=aB
end Go.Sx
namespace Go.Sx.Ob
open Go.Proofs
def AF {h:Hp} {a:Nat} {x n:Int} (b:bf h a 63 [.int .i64 x,.int .i64 n]):pO Tryz.prog 40 [.iface 59 (ptr a),.iface 44 (.int .i64 n)] h (.bool true):=by
 intro W hW
 subst hW
 refine (Go.Proofs.YtfkjiiapldkoeaaGreatDoor.Im a n W ?_).mono ?_
 ·rw [gT,b.cell]
  rfl
 ·rintro e w' ⟨he,rfl⟩
  exact ⟨_,he,cY.refl _,rfl,rfl⟩
def Fy {h:Hp} {a:Nat} {x n:Int} (b:bf h a 63 [.int .i64 x,.int .i64 n]):pO Tryz.prog 39 [ptr a] h (.iface 44 (.int .i64 n)):=by
 refine dk mixed Tryz.func39 aB (lB (some ⟨a,0,none⟩)) ?_
 unfold iq
 refine au rfl ?_
 rw [az]
 refine af b (n,()) rfl ?_
 exact ⟨rfl,rfl⟩
def Hm {h:Hp} (p:rV h) {a x n:Nat} (hx:x<=2^60) (hn:n<10^18) (b:bf h a 63 [.int .i64 (x:Int),.int .i64 (n:Int)]):HC Tryz.prog 37 #[ptr a] h fun v h'=>∃ s:XA,v=.string s/\s.data.toList≠[]/\Ext h h':=by
 refine ba (args:=[ptr a]) mixed Tryz.func37 aB (lX (some ⟨a,0,none⟩)) ?_
 unfold iG uG
 refine au rfl ?_
 refine af b ((x:Int),()) rfl (ao ?_)
 refine au rfl ?_
 rw [az]
 refine af b ((n:Int),()) rfl (ao ?_)
 refine aK (Kr p x hx) ?_
 rintro _ h1 ⟨s,rfl,hs,e1⟩
 refine ⟨(s,()),rfl,ao ?_⟩
 have b1:=b.an e1 aj
 refine ⟨⟨b1.cells _ rfl,trivial⟩,?_⟩
 have z5:(⟨#[108,105,110,101,32]⟩:XA).size=5:=rfl
 have z2:(⟨#[58,32]⟩:XA).size=2:=rfl
 refine aC ae (aC (by rw [P0,z5]; omega) ?_)
 refine aK (Ja h1 n hn) ?_
 rintro _ h2 ⟨t,rfl,ht,e2⟩
 refine ⟨(t,()),rfl,ao ?_⟩
 refine ⟨⟨(b1.an e2 aj).cells _ rfl,trivial⟩,?_⟩
 refine aC (by rw [P0,P0,z5,z2]; omega) ?_
 refine ⟨_,rfl,?_,e1.trans e2⟩
 intro h0
 have:=O7 List.length h0
 simp at this
def Lt (o:Nat) (t:TypeId) (u:XB) (h:Hp) (K:XB->Hp->Prop):aV Tryz.prog (Sx.df (BinOp.eql) 29 (Operand.tmp o) (Operand.const Value.nilIface) (.iface t u) .nilIface) h K=K (.bool false) h:=aB
def Nb (o:Nat) (h:Hp) (K:XB->Hp->Prop):aV Tryz.prog (Sx.df (BinOp.eql) 29 (Operand.tmp o) (Operand.const Value.nilIface) .nilIface .nilIface) h K=K (.bool true) h:=aB
def NM (n:Int) (o u:Nat) (h:Hp) (K:XB->Hp->Prop):aV Tryz.prog (Sx.df (BinOp.eql) 29 (Operand.tmp o) (Operand.tmp u) (.iface 44 (.int .i64 n)) (.iface 44 (.int .i64 n))) h K=K (.bool (n==n)) h:=aB
def OD (a:XC) (h:Hp) (K:XB->Hp->Prop):aV Tryz.prog (Instr.typeAssert (.iface 59 (.pointer (some a))) 29 59 true) h K=K (.tuple #[.pointer (some a),.bool true]) h:=aB
def Oy (h:Hp) (K:XB->Hp->Prop):aV Tryz.prog (Instr.typeAssert .nilIface 29 59 true) h K=K (.tuple #[.pointer none,.bool false]) h:=aB
def DM (h:Hp) (n:Int):pO Tryz.prog 38 [.iface 44 (.int .i64 n),.iface 44 (.int .i64 n)] h (.bool true):=by
 refine dk mixed Tryz.func38 aB (lH _ _) ?_
 unfold ib bR bE
 refine cI (fun K' hK=>by rw [Lt]; exact hK) ?_
 refine aW rfl ?_
 refine cI (fun K' hK=>by rw [Lt]; exact hK) ?_
 refine aW rfl ?_
 refine cI (b:=true) (fun K' hK=>by rw [NM]; simpa using hK) ?_
 exact ⟨rfl,rfl⟩
def pQ (a w:Nat) (e:Option (Nat × Nat)):Bool:=if w=0 then decide (e=none) else decide (e=some (a,w))
def yH {h:Hp} (p:rV h) {ev:XB} {e:Option (Nat × Nat)} (v:uJ h ev e) (hs:∀ q,e=some q->q.1<=2^60/\q.2<10^18) (a w:Nat) :
  HC Tryz.prog 12 #[ev,.agg #[.int .i64 (a:Int),.int .i64 (w:Int)]] h fun r h'=>r=.bool (pQ a w e)/\Ext h h':=by
 refine ba (args:=[ev,.agg #[.int .i64 (a:Int),.int .i64 (w:Int)]]) mixed Tryz.func12 aB (lC ev a w) ?_
 unfold ir aN uG aS bR dh bE bZ
 refine bm ?_
 intro h1 b1 e1 z1
 rw [az]
 refine af b1 ((w:Int),()) rfl (ao ?_)
 cases e with
 | none =>
  have v:ev=.nilIface:=v
  subst v
  refine ai (fun q=>?_) (fun q=>?_)
  ·have q:w=0:=fe q
   refine cI (fun K' hK=>by rw [Nb]; exact hK) ?_
   exact ⟨by unfold pQ; rw [OH q]; rfl,e1⟩
  ·have q:¬ w=0:=fy q
   show aV _ _ _ _
   rw [Oy]
   refine ⟨(none,false,()),rfl,ao ?_⟩
   refine aW rfl ?_
   exact ⟨by unfold pQ; rw [OG q]; rfl,e1⟩
 | some er =>
  obtain ⟨ax,rfl,bx⟩:=v
  obtain ⟨hs1,hs2⟩:=hs er rfl
  have bx1:=bx.an e1 aj
  refine ai (fun q=>?_) (fun q=>?_)
  ·have q:w=0:=fe q
   refine cI (fun K' hK=>by rw [Lt]; exact hK) ?_
   exact ⟨by unfold pQ; rw [OH q]; rfl,e1⟩
  have q:¬ w=0:=fy q
  have ww:pQ a w (some er)=decide (er=(a,w)):=by
   unfold pQ
   rw [OG q]
   simp
  show aV _ _ _ _
  rw [OD]
  refine ⟨(some ⟨ax,0,none⟩,true,()),rfl,ao ?_⟩
  refine aX rfl ?_
  refine aX rfl ?_
  refine au rfl ?_
  refine af bx1 ((er.1:Int),()) rfl (ao ?_)
  refine af b1 ((a:Int),()) rfl (ao ?_)
  refine kb (fun r=>?_) (fun r=>?_)
  ·have r:¬ er.1=a:=fy r
   exact ⟨by rw [ww,OL (fun e=>r (by rw [e]))],e1⟩
  have r:er.1=a:=fe r
  refine au rfl ?_
  rw [az]
  refine af bx1 ((er.2:Int),()) rfl (ao ?_)
  refine af b1 ((w:Int),()) rfl (ao ?_)
  refine kb (fun s=>?_) (fun s=>?_)
  ·have s:¬ er.2=w:=fy s
   exact ⟨by rw [ww,OL (fun e=>s (by rw [e]))],e1⟩
  have s:er.2=w:=fe s
  have ok:pQ a w (some er)=true:=by
   rw [ww]
   exact OK (Prod.ext r s)
  rw [ok]
  have p1:=p.an e1 aj
  refine aK (Hm p1 hs1 hs2 bx1) ?_
  rintro _ h2 ⟨t,rfl,ht,e2⟩
  refine ⟨(t,()),rfl,ao ?_⟩
  have b12:=b1.an e2 aj
  have bx2:=bx1.an e2 aj
  refine ⟨⟨b12.cells _ rfl,bx2.cells _ rfl,b12.cells _ rfl,bx2.cells _ rfl,trivial⟩,?_⟩
  refine aX (by rw [ByteArray.toList_eq]; simpa using ht) ?_
  refine au rfl ?_
  refine af bx2 ((er.2:Int),()) rfl (ao ?_)
  refine eZ (Fy bx2) (.iface 44 (.int .i64 (er.2:Int)),()) rfl (ao ?_)
  refine ⟨⟨bx2.cells _ rfl,b12.cells _ rfl,bx2.cells _ rfl,b12.cells _ rfl,bx2.cells _ rfl,trivial⟩,?_⟩
  refine aM (DM h2 er.2) ?_
  refine ⟨⟨bx2.cells _ rfl,b12.cells _ rfl,bx2.cells _ rfl,b12.cells _ rfl,bx2.cells _ rfl,trivial⟩,?_⟩
  refine aX rfl ?_
  refine af b12 ((w:Int),()) rfl (ao ?_)
  rw [s] at bx2
  refine aM (AF bx2) ?_
  refine ⟨⟨b12.cells _ rfl,bx2.cells _ (by rw [s]; rfl),b12.cells _ rfl,bx2.cells _ (by rw [s]; rfl),b12.cells _ rfl,bx2.cells _ rfl,trivial⟩,?_⟩
  exact ⟨rfl,e1.trans e2⟩
structure Fx (h:Hp):Prop where
 tb:rE h
 ld:Laid h
 pw:rV h
 mx:∃ m:Int,bk h ⟨2,0,none⟩ 0 [.int .i64 m]
def Fx.an {h h':Hp} (f:Fx h) (e:Ext h h'):Fx h':=by
 obtain ⟨m,b⟩:=f.mx
 exact ⟨f.tb.an e aj,f.ld.ext e,f.pw.an e aj,m,bF e aj _ _ b⟩
def Fx.NX {h:Hp} (f:Fx h) (s:XA):HC Tryz.prog 10 #[.string s] h (MY s h):=by
 obtain ⟨m,b⟩:=f.mx
 refine LJ s h f.ld f.tb m (fun W hW=>?_)
 subst hW
 rw [gT]
 exact b.1
def DZ (s:XA) (n:Nat):XA:=if n<s.size then s.extract 0 n else s
def Fj (s:XA) (n:Nat):(DZ s n).size<=n/\(DZ s n).size<=s.size:=by
 unfold DZ
 split
 ·rw [ByteArray.size_extract]; omega
 ·omega
def Lk (s:XA) (n:Nat) (h:Hp):HC Tryz.prog 9 #[.string s,.int .i64 (n:Int)] h fun v h'=>v=.string (DZ s n)/\Ext h h':=by
 refine ba (args:=[.string s,.int .i64 (n:Int)]) mixed Tryz.func9 aB (pg s n) ?_
 unfold ly
 unfold DZ
 refine ai (fun q=>?_) (fun q=>?_)
 ·have q:=OE q
  rw [OH ae]
  refine aC ⟨ae,ae,ae⟩ ?_
  exact ⟨by rw [show Int.toNat (n:Int)=n from ae],Ch.refl _ _⟩
 ·have q:=OF q
  rw [OG ae]
  exact ⟨rfl,Ch.refl _ _⟩
def uJ.bd {h h':Hp} {v:XB} {e:Option (Nat × Nat)} (E:uJ h v e) (k:Ext h h'):uJ h' v e:=by
 cases e with
 | none=>exact E
 | some e =>
  obtain ⟨a,h1,h2⟩:=E
  exact ⟨a,h1,h2.an k aj⟩
def Jy (s:XA) (l w:Nat) (h:Hp) (f:Fx h):HC Tryz.prog 17 #[.string s,.int .i64 (l:Int),.int .i64 (w:Int)] h fun v h'=>v=.bool (pQ l w (zd (dW s)))/\Ext h h':=by
 refine ba (args:=[.string s,.int .i64 (l:Int),.int .i64 (w:Int)]) mixed Tryz.func17 aB (oI s l w) ?_
 unfold jU aN aS aI
 refine aK (f.NX s) ?_
 rintro _ h1 ⟨e1,a,b,c,d,ev,rfl,U,E⟩
 refine ⟨((a.p,a.l,a.c),(b.p,b.l,b.c),(c.p,c.l,c.c),(d.p,d.l,d.c),ev,()),rfl,ao ?_⟩
 refine bm ?_
 intro h2 b2 e2 z2
 refine ap b2 rfl aj ?_
 intro h3 b3 k3 z3
 have e13:Ext h1 h3:=Ch.trans e2 k3 (fun i hi hl=>by simp at hi; omega)
 have e03:=e1.trans e13
 refine aK (yH (f.an e03).pw (E.bd e13) (fun q hq=>zu hq) l w) ?_
 rintro _ h4 ⟨rfl,e4⟩
 refine ⟨(pQ l w (zd (dW s)),()),rfl,?_⟩
 exact ⟨rfl,e03.trans e4⟩
def L9 (x:cd):Bool:=decide (x.kind=2) && Ei x.inst.op
def qa (l:List cd):Nat:=(l.filter L9).length
def Ed (l:List cd) (i:Nat) (hi:i<l.length):qa (l.take (i+1))=qa (l.take i)+if L9 l[i]=true then 1 else 0:=by
 unfold qa
 rw [OT hi,List.filter_append,OX]
 congr 1
 by_cases hk:L9 l[i]=true <;> simp [hk]
def G9 (l:List cd):qa l<=l.length:=PY _ _
def Fp {h:Hp} (t:Bs h) {a b c d:cH} {u:pN} (v:sj h a b c d u):HC Tryz.prog 21 #[tC a b c d] h fun w h'=>w=.int .i64 ((if D3 u=0 then qa u.text else 0:Nat):Int)/\Ext h h':=by
 refine ba (args:=[tC a b c d]) mixed Tryz.func21 aB (wK a.p a.l a.c b.p b.l b.c c.p c.l c.c d.p d.l d.c) ?_
 unfold uw cv bN dH bW aN cU av aI bh aQ
 refine bm ?_
 intro h1 b1 e1 z1
 have b1:bf h1 h.size 27 [a.v,b.v,c.v,d.v]:=b1
 refine af b1 ((a.p,a.l,a.c),(b.p,b.l,b.c),(c.p,c.l,c.c),(d.p,d.l,d.c),()) rfl (ao ?_)
 refine aK (uq (t.an e1 aj) (v.an e1)) ?_
 rintro _ h2 ⟨rfl,e2⟩
 refine ⟨((D3 u:Int),()),rfl,ao ?_⟩
 have e02:=e1.trans e2
 refine ai (fun r=>?_) (fun r=>?_)
 ·have r:¬ D3 u=0:=by simpa using r
  rw [OG r]
  exact ⟨rfl,e02⟩
 have r:D3 u=0:=by simpa using r
 rw [OH r]
 have b2:=b1.an e2 aj
 refine af b2 ((a.p,a.l,a.c),()) rfl (ao ?_)
 have n:=v.text.len
 have m1:=v.text.many
 refine bJ (cs:=[(false,[.int .i64]),(false,[.int .i64])]) (fun y m h'=>∃ i:Nat,y.2.1=(i:Int)/\y.1=(qa (u.text.take i):Int)/\m=u.text.length-i/\i<=u.text.length/\Ext h h') ((0:Int),(0:Int),()) u.text.length rfl
  ⟨0,rfl,rfl,rfl,ae,e02⟩ ?_
 rintro ⟨n1,n2,⟨⟩⟩ m g ⟨i,hi,hn,rfl,hle,eg⟩
 simp only at hi hn
 subst hi hn
 refine ao ?_
 refine ai (fun q=>?_) (fun q=>?_)
 ·have q:=OE q
  have hil:i<u.text.length:=ae
  obtain ⟨aa,pp,ll,cc,rfl',hc,va⟩:=(v.text.an eg).cells i hil
  have ht:=Ed u.text i hil
  have hsl:qa (u.text.take i)<=i:=by have:=G9 (u.text.take i); rw [O0] at this; omega
  generalize u.text[i]=x at hc va ht
  refine aC ⟨ae,ae⟩ (au rfl' ?_)
  rw [show Int.toNat (i:Int)=i from ae]
  refine aG (x.kind,x.name,x.inst.op,x.inst.a,x.inst.b,x.inst.n,x.inst.form,(pp,ll,cc),(x.e.num:Int),x.n,()) hc (ao ?_)
  refine bm ?_
  intro g1 c1 f1 y1
  refine ap c1 rfl aj ?_
  intro g2 c2 k2 y2
  have c2:bf g2 g.size 96 (encI pp ll cc x):=c2
  have f2:Ext g g2:=Ch.trans f1 k2 (fun i hi hl=>by simp at hi; omega)
  have eg2:=eg.trans f2
  refine af c2 (x.kind,()) rfl (ao ?_)
  refine ai (fun r=>?_) (fun r=>?_)
  ·have r:x.kind=2:=by simpa using r
   rw [az]
   refine af c2 (x.inst.op,()) rfl (ao ?_)
   refine aK (Cv (t.an eg2 aj) x.inst.op va.op.1 va.op.2) ?_
   rintro _ g3 ⟨rfl,f3⟩
   refine ⟨(Ei x.inst.op,()),rfl,ao ?_⟩
   refine ai (fun s=>?_) (fun s=>?_)
   ·rw [OH (by unfold L9; rw [OK r,s]; rfl)] at ht
    refine aY (cs:=[(false,[.int .i64]),(false,[.int .i64])]) (((qa (u.text.take i)+1:Nat):Int),((i+1:Nat):Int),()) (u.text.length-(i+1)) rfl ae (by rw [wrap_i64 ae ae,wrap_i64 ae ae]; rfl) ?_
    exact ⟨i+1,rfl,by rw [ht],rfl,ae,eg2.trans f3⟩
   ·rw [OG (by unfold L9; rw [OK r,s]; decide)] at ht
    refine aY (cs:=[(false,[.int .i64]),(false,[.int .i64])]) ((qa (u.text.take i):Int),((i+1:Nat):Int),()) (u.text.length-(i+1)) rfl ae (by rw [wrap_i64 ae ae]; rfl) ?_
    exact ⟨i+1,rfl,by rw [ht]; rfl,rfl,ae,eg2.trans f3⟩
  ·have r:¬ x.kind=2:=by simpa using r
   rw [OG (by unfold L9; rw [OL r]; simp)] at ht
   refine aY (cs:=[(false,[.int .i64]),(false,[.int .i64])]) ((qa (u.text.take i):Int),((i+1:Nat):Int),()) (u.text.length-(i+1)) rfl ae (by rw [wrap_i64 ae ae]; rfl) ?_
   exact ⟨i+1,rfl,by rw [ht]; rfl,rfl,ae,eg2⟩
 ·have q:=OF q
  have:i=u.text.length:=ae
  subst this
  rw [O8]
  exact ⟨rfl,eg⟩
def OC:zd (dW ⟨#[97,58,32,110,111,112,10,97,58,32,110,111,112]⟩)=some (2,22):=aB
def s1:XA:=⟨#[97,58,32,106,109,112,32,97]⟩
def u1:pN:=(gZ (dW s1)).1
def k1:zd (dW s1)=none:=aB
def Oq:D3 u1=0:=aB
def Ox:u1.text.length=2:=aB
def Ot:qa u1.text=1:=aB
def OB:(u1.text.map (·.name)).take 1=[⟨#[97]⟩]:=aB
def Ov:(u1.text.map (·.inst.op)).drop 1=[40]:=aB
def LQ (a:XC):a.add 0=a:=by unfold Addr.add; simp
def Ny:∃ x y,u1.text=[x,y]/\x.name=⟨#[97]⟩/\y.inst.op=40:=by
 obtain ⟨x,y,h⟩:∃ x y,u1.text=[x,y]:=by
  have hl:=Ox
  match hu:u1.text,hl with
  | [x,y],_=>exact ⟨x,y,rfl⟩
 have h1:=OB
 have h2:=Ov
 rw [h] at h1 h2
 simp at h1 h2
 exact ⟨x,y,h,h1,h2⟩
def HW (h:Hp) (f:Fx h):HC Tryz.prog 14 #[] h fun v h'=>v=.bool true/\Ext h h':=by
 refine ba (args:=[]) mixed Tryz.func14 aB mK ?_
 unfold jl aN cU aS bR aZ aJ bE aI
 refine aK (f.NX s1) ?_
 rintro _ h1 ⟨e1,a,b,c,d,ev,rfl,U,E⟩
 rw [k1] at E
 have E:ev=.nilIface:=E
 subst E
 refine ⟨((a.p,a.l,a.c),(b.p,b.l,b.c),(c.p,c.l,c.c),(d.p,d.l,d.c),.nilIface,()),rfl,ao ?_⟩
 refine bm ?_
 intro h2 b2 e2 z2
 refine ap b2 rfl aj ?_
 intro h3 b3 k3 z3
 have b3:bf h3 h1.size 27 [a.v,b.v,c.v,d.v]:=b3
 have e13:Ext h1 h3:=Ch.trans e2 k3 (fun i hi hl=>by simp at hi; omega)
 have e03:=e1.trans e13
 have v:sj h3 a b c d u1:=(U.at (Iu bO)).an e13
 obtain ⟨x,y,hxy,hx,hy⟩:=Ny
 have hl:=v.text.len
 have cx:=v.text.cells 0 (by rw [hxy]; simp)
 have cy:=v.text.cells 1 (by rw [hxy]; simp)
 obtain ⟨aa,q,m,cc,ha,hcx,-⟩:=cx
 obtain ⟨ab,q',m',cc',hb,hcy,-⟩:=cy
 rw [ha] at hb
 cases hb
 simp only [hxy,List.getElem_cons_zero,List.getElem_cons_succ,Nat.zero_mul,Nat.one_mul,LQ] at hcx hcy
 rw [hxy] at hl
 have hl:a.l=2:=hl
 refine cI (fun K' hK=>by rw [Nb]; exact hK) ?_
 refine aX rfl ?_
 refine af b3 ((a.p,a.l,a.c),()) rfl (ao ?_)
 refine aX (by rw [hl]; rfl) ?_
 refine af b3 ((a.p,a.l,a.c),()) rfl (ao ?_)
 refine aC ⟨ae,ae⟩ (au ha ?_)
 refine aG (x.name,()) ⟨hcx.2.1,trivial⟩ (ao ?_)
 refine aX (by rw [hx,ByteArray.toList_eq]; rfl) ?_
 refine af b3 ((a.p,a.l,a.c),()) rfl (ao ?_)
 refine aC ⟨ae,ae⟩ (au ha ?_)
 refine aG (y.inst.op,()) ⟨by rw [add_add]; exact hcy.2.2.1,trivial⟩ ?_
 refine ao ?_
 refine aX (by rw [hy]; rfl) ?_
 refine af b3 ((a.p,a.l,a.c),(b.p,b.l,b.c),(c.p,c.l,c.c),(d.p,d.l,d.c),()) rfl (ao ?_)
 refine aK (Fp (f.an e03).tb.NJ v) ?_
 rintro _ h4 ⟨rfl,e4⟩
 rw [Oq,Ot,OH rfl]
 refine ⟨(((1:Nat):Int),()),rfl,ao ?_⟩
 refine aX rfl ?_
 have b4:=b3.an e4 aj
 refine af b4 ((a.p,a.l,a.c),(b.p,b.l,b.c),(c.p,c.l,c.c),(d.p,d.l,d.c),()) rfl (ao ?_)
 refine aK (uq (f.an (e03.trans e4)).tb.NJ (v.an e4)) ?_
 rintro _ h5 ⟨rfl,e5⟩
 rw [Oq]
 refine ⟨(((0:Nat):Int),()),rfl,ao ?_⟩
 refine aX rfl ?_
 have e05:=(e03.trans e4).trans e5
 refine aK (Jy _ 2 22 _ (f.an e05)) ?_
 rintro _ h6 ⟨rfl,e6⟩
 rw [OC]
 refine ⟨(true,()),rfl,?_⟩
 exact ⟨rfl,e05.trans e6⟩
def Gh {w:eS} {n e:Nat} {s:XA} (hs:s.size<=2^20) (h:eJ w n s=.error e):e≠0:=by
 unfold eJ at h
 split at h
 ·rename_i hh
  injection h with h; omega
 split at h
 ·injection h with h; omega
 split at h
 ·rename_i he
  injection h with h
  subst h
  have f:=fN s hs
  have:=Ag (fun a ha=>(f a ha).1) (fun t ht=>by cases ht) he
  omega
 split at h
 ·injection h with h; omega
 split at h
 ·injection h with h; omega
 ·cases h
theorem BH:∀ (l:List XA) (w:eS) (n:Nat) (q:Nat × Nat),(∀ s,s∈l->s.size<=2^20)->fV w n l=.error q->q.2≠0
 | [],w,n,q,_,h=>by cases h
 | s::l,w,n,q,hs,h=>by
  simp only [fV] at h
  split at h
  ·rename_i e he
   injection h with h
   subst h
   exact Gh (hs s aj) he
  ·exact BH l _ _ q (fun x hx=>hs x (by simp [hx])) h
def JF {s:XA} {q:Nat × Nat} (h:dW s=.error q):q.2≠0:=by
 unfold dW at h
 split at h
 ·injection h with h
  subst h
  decide
 rename_i hsz
 split at h
 ·injection h with h
  subst h
  decide
 rename_i hl
 split at h
 ·rename_i he
  injection h with h
  subst h
  exact BH _ _ _ _ (fun x hx=>by have:=gO s x hx; omega) he
 ·split at h
  ·injection h with h
   subst h
   show 23≠0
   decide
  ·cases h
def EX {s:XA} (hs:s.size<=60000\/65536<s.size):tX (gZ (dW s)).1:=by
 rcases hs with hs | hs
 ·exact Iu hs
 ·have:dW s=.error (0,3):=by unfold dW; rw [OH hs]
  rw [this]
  exact tX.z
def Fu {s:XA}:pQ (gZ (dW s)).2.1 (gZ (dW s)).2.2 (zd (dW s))=true:=by
 cases h:dW s with
 | error q =>
  have:=JF h
  unfold pQ gZ zd
  rw [OG this]
  exact OK rfl
 | ok u=>rfl
def wU (s1:XA):T :=
 aS 10 [.string s1] true [(true, [.slice 96, .slice 96, .slice 99, .slice 9]), (false, [.interface #[("Error", 85)]])] fun (p2 : Option XC) (l3 : Nat) (l4 : Nat) (p5 : Option XC) (l6 : Nat) (l7 : Nat) (p8 : Option XC) (l9 : Nat) (l10 : Nat) (p11 : Option XC) (l12 : Nat) (l13 : Nat) (v14 : XB) =>
 T.new [aI,aI,aI,aI] 27 fun (a15:XC) =>
 T.ak a15 [.slice p2 l3 l4,.slice p5 l6 l7,.slice p8 l9 l10,.slice p11 l12 l13] <|
 aS 11 [.string s1] true [(true,[.slice 96,.slice 96,.slice 99,.slice 9]),(true,[.int .i64,.int .i64])] fun (p16:Option XC) (l17:Nat) (l18:Nat) (p19:Option XC) (l20:Nat) (l21:Nat) (p22:Option XC) (l23:Nat) (l24:Nat) (p25:Option XC) (l26:Nat) (l27:Nat) (n28:Int) (n29:Int) =>
 T.new [aI,aI,aI,aI] 27 fun (a30:XC) =>
 T.new [.int .i64 (0:Int),.int .i64 (0:Int)] 33 fun (a31:XC) =>
 T.ak a30 [.slice p16 l17 l18,.slice p19 l20 l21,.slice p22 l23 l24,.slice p25 l26 l27] <|
 T.ak a31 [.int .i64 n28,.int .i64 n29] <|
 T.ah a31 [.int .i64,.int .i64] fun (n32:Int) (n33:Int) =>
 aN 12 [v14,.agg #[.int .i64 n32,.int .i64 n33]] fun (b34:Bool) =>
 cond b34
  (T.ah a15 [.slice 96,.slice 96,.slice 99,.slice 9] fun (p35:Option XC) (l36:Nat) (l37:Nat) (p38:Option XC) (l39:Nat) (l40:Nat) (p41:Option XC) (l42:Nat) (l43:Nat) (p44:Option XC) (l45:Nat) (l46:Nat) =>
  T.ah a30 [.slice 96,.slice 96,.slice 99,.slice 9] fun (p47:Option XC) (l48:Nat) (l49:Nat) (p50:Option XC) (l51:Nat) (l52:Nat) (p53:Option XC) (l54:Nat) (l55:Nat) (p56:Option XC) (l57:Nat) (l58:Nat) =>
  aN 13 [.agg #[.slice p35 l36 l37,.slice p38 l39 l40,.slice p41 l42 l43,.slice p44 l45 l46],.agg #[.slice p47 l48 l49,.slice p50 l51 l52,.slice p53 l54 l55,.slice p56 l57 l58]] fun (b59:Bool) =>
  cond b59
  (aN 14 [] fun (b60:Bool) =>
  T.ret (.bool b60))
  bE)
  bE
def yw {h0 h:Hp} (f:Fx h) (e0:Ext h0 h) (s:XA) (hs:s.size<=60000\/65536<s.size):wU s [] (fun v h'=>v=.bool true/\Ext h0 h') h:=by
 unfold wU aN aS bE aI
 refine aK (f.NX s) ?_
 rintro _ h1 ⟨e1,a,b,c,d,ev,rfl,U,E⟩
 refine ⟨((a.p,a.l,a.c),(b.p,b.l,b.c),(c.p,c.l,c.c),(d.p,d.l,d.c),ev,()),rfl,ao ?_⟩
 have f1:=f.an e1
 have v1:=U.at (EX hs)
 refine bm ?_
 intro h2 b2 e2 z2
 refine ap b2 rfl aj ?_
 intro h3 b3 k3 z3
 have b3:bf h3 h1.size 27 [a.v,b.v,c.v,d.v]:=b3
 have e13:Ext h1 h3:=Ch.trans e2 k3 (fun i hi hl=>by simp at hi; omega)
 have z13:=e13.size
 refine aK (KF s h3) ?_
 rintro _ h4 ⟨e4,a',b',c',d',rfl,U'⟩
 refine ⟨((a'.p,a'.l,a'.c),(b'.p,b'.l,b'.c),(c'.p,c'.l,c'.c),(d'.p,d'.l,d'.c),(((gZ (dW s)).2.1:Nat):Int),(((gZ (dW s)).2.2:Nat):Int),()),rfl,ao ?_⟩
 have v2:=U'.at (EX hs)
 have z4:=e4.size
 refine bm ?_
 intro h5 b5 e5 z5
 refine bm ?_
 intro h6 b6 e6 z6
 have b56:=b5.an e6 aj
 have z56:=e6.size
 refine ap b56 rfl aj ?_
 intro h7 b7 k7 z7
 have b67:=b6.an k7 (by simp; omega)
 refine ap b67 rfl aj ?_
 intro h8 b8 k8 z8
 have b8:bf h8 h5.size 33 [.int .i64 (((gZ (dW s)).2.1:Nat):Int),.int .i64 (((gZ (dW s)).2.2:Nat):Int)]:=b8
 have b78:bf h8 h4.size 27 [a'.v,b'.v,c'.v,d'.v]:=b7.an k8 (by simp; omega)
 have e48:Ext h4 h8:=Ch.trans (Ch.trans (e5.trans e6) k7 (fun i hi hl=>by simp at hi; omega)) k8 (fun i hi hl=>by simp at hi; omega)
 have e38:=e4.trans e48
 have e18:=e13.trans e38
 refine af b8 ((((gZ (dW s)).2.1:Nat):Int),(((gZ (dW s)).2.2:Nat):Int),()) rfl (ao ?_)
 refine aK (yH (f1.an e18).pw (E.bd e18) (fun q hq=>zu hq) _ _) ?_
 rintro _ h9 ⟨rfl,e9⟩
 rw [Fu]
 refine ⟨(true,()),rfl,ao ?_⟩
 refine aX rfl ?_
 refine af ((b3.an e38 aj).an e9 aj) ((a.p,a.l,a.c),(b.p,b.l,b.c),(c.p,c.l,c.c),(d.p,d.l,d.c),()) rfl (ao ?_)
 refine af (b78.an e9 aj) ((a'.p,a'.l,a'.c),(b'.p,b'.l,b'.c),(c'.p,c'.l,c'.c),(d'.p,d'.l,d'.c),()) rfl (ao ?_)
 refine aK (BR (v1.an (e18.trans e9)) (v2.an (e48.trans e9))) ?_
 rintro _ h10 ⟨t,rfl,ht,e10⟩
 have ht:t=true:=ht.2 rfl
 subst ht
 refine ⟨(true,()),rfl,ao ?_⟩
 refine aX rfl ?_
 have e1a:=(e18.trans e9).trans e10
 refine aK (HW h10 (f1.an e1a)) ?_
 rintro _ h11 ⟨rfl,e11⟩
 refine ⟨(true,()),rfl,?_⟩
 exact ⟨rfl,((e0.trans e1).trans e1a).trans e11⟩
def Jj (s:XA) (h:Hp) (f:Fx h):HC Tryz.prog 3 #[.string s] h fun v h'=>v=.bool true/\Ext h h':=by
 refine ba (args:=[.string s]) mixed Tryz.func3 aB (iw s) ?_
 show cond (decide ((s.size:Int)<=(65536:Int))) (T.call Tryz.prog 9 [.string s,.int .i64 (3000:Int)] false [(false,[.string])] fun (s1:XA)=>wU s1) (wU s) [] _ h
 refine ai (fun q=>?_) (fun q=>?_)
 ·refine aK (Lk s 3000 h) ?_
  rintro _ h1 ⟨rfl,e1⟩
  refine ⟨(DZ s 3000,()),rfl,?_⟩
  have:=Fj s 3000
  exact yw (f.an e1) e1 (DZ s 3000) (.inl ae)
 ·have q:=OF q
  exact yw f (Ch.refl _ _) s (.inr ae)
open Go.Proofs Go.Proofs.YtfkjiiapldkoeaaGreatDoor
open Go.ChangeShapes Go.WideShapes Go.ChangeAt Go.WideMaps Go.WideElems Go.RowKit
def NW:ownKnob Tryz.prog.godebug=none:=aB
def u9:Tryz.prog.underlying 9=some .string:=aB
def u4:Tryz.prog.underlying 4=some .bool:=aB
def u3:Tryz.prog.underlying 3=some (.int .i64):=aB
def u5:Tryz.prog.underlying 5=some (.int .u8):=aB
def NL:Tryz.prog.underlying 215=some (.array 43 158):=aB
def MX:Tryz.prog.cellsOf 158=3:=aB
def N6:Tryz.prog.cellsOf 215=129:=aB
def c9:Tryz.prog.cellsOf 9=1:=aB
def c5:Tryz.prog.cellsOf 5=1:=aB
def c3:Tryz.prog.cellsOf 3=1:=aB
def Oc:Is Tryz.prog 158=some [(9,0),(5,1),(3,2)]:=aB
def Br:List (DataW Unit):=match (Rows.laid_spandrel_isa_table:DataW Unit) with | .agg l=>l | _=>[]
def HB:DataW Unit->Int
 | .agg [_,_,.lit (.int _ n)]=>n
 | _=>0
def JL:(Rows.laid_spandrel_isa_table:DataW Unit)=.agg Br:=aB
def H7:Br.map HB=(List.range 43).map fun k=>((cP.getD k 0:Nat):Int):=aB
theorem BK {α β:Type} (f:α->List β) (m:Nat) (hf:∀ x,(f x).length=m):∀ l:List α,(l.flatMap f).length=l.length*m
 | []=>aj
 | x::l=>by rw [List.flatMap_cons,OX,hf,BK f m hf l,Pg,Nat.succ_mul,Nat.add_comm]
def AO (nm:Nat->XA) (by_:Nat->Int):(gM nm by_).length=129:=by
 unfold gM
 rw [BK _ 3 (fun x=>rfl),List.length_range]
def LL:DataW Unit->List UInt8
 | .agg [.lit (.string s),_,_]=>s
 | _=>[]
def LN:DataW Unit->Int
 | .agg [_,.lit (.int _ n),_]=>n
 | _=>0
def Jo:Br.map LL=(List.range 43).map fun k=>y7 k:=aB
def JV:Br.map LN=(List.range 43).map fun k=>dc k:=aB
def FZ {enc:TypeId × XB->Unit} {W:World} {base fuel:Nat} {sp:Nat->Bool} {held:Bool} {cs:List XB} {p:List MemPlace}
  (h:DataW.trod enc Tryz.prog W base sp held fuel 215 cs=some (Rows.laid_spandrel_isa_table,p)):cs=gM cR dc:=by
 obtain ⟨xs,m,_,hx,hl,hlen,hf⟩:=DataW.trod_array NL h
 rw [N6] at hl
 have hxs:xs.map (·.1)=Br:=by
  have:=O7 Prod.fst hx
  rw [show (Rows.laid_spandrel_isa_table,p).1=DataW.agg Br from JL] at this
  simpa using this.symm
 have each:∀ i,i<43->(cs.drop (i*3)).take 3=[.string (cR i),.int .u8 (dc i),.int .i64 ((cP.getD i 0:Nat):Int)]:=by
  intro i hi
  have h1:=hf i hi
  rw [MX] at h1
  rw [OO ae] at h1
  obtain ⟨ys,n,hy,hyl,hyn,hys⟩:=CK Oc h1
  obtain ⟨y0,g0,t0⟩:=hys 0 _ rfl
  obtain ⟨y1,g1,t1⟩:=hys 1 _ rfl
  obtain ⟨y2,g2,t2⟩:=hys 2 _ rfl
  rw [MX] at hyl
  generalize hc:(cs.drop (i*3)).take 3=c at *
  match c,hyl with
  | [v0,v1,v2],_ =>
   rw [show Tryz.prog.cellsOf (9,0).1=1 from c9] at t0
   rw [show Tryz.prog.cellsOf (5,1).1=1 from c5] at t1
   rw [show Tryz.prog.cellsOf (3,2).1=1 from c3] at t2
   obtain ⟨s,e0,r0,_⟩:=DataW.trod_string u9 t0
   obtain ⟨b,e1,r1,_⟩:=DataW.trod_int u5 t1
   obtain ⟨k,e2,r2,_⟩:=DataW.trod_int u3 t2
   cases e0; cases e1; cases e2
   have hys3:ys=[y0,y1,y2]:=by
    apply PK
    intro j
    match j with
    | 0=>exact g0
    | 1=>exact g1
    | 2=>exact g2
    | j+3=>rw [Pf (by rw [hyn]; simp),Pf aj]
   have h2:(xs.map (·.1))[i]?=some (xs[i]'ae).1:=by rw [Pw,OO ae]; rfl
   rw [hxs] at h2
   have hk:k=((cP.getD i 0:Nat):Int):=by
    have h3:(Br.map HB)[i]?=some (HB (xs[i]'ae).1):=by rw [Pw,h2]; rfl
    rw [H7,Pw,List.getElem?_range hi] at h3
    rw [hy,hys3,r0,r1,r2] at h3
    exact (O1 h3).symm
   have hb:b=dc i:=by
    have h3:(Br.map LN)[i]?=some (LN (xs[i]'ae).1):=by rw [Pw,h2]; rfl
    rw [JV,Pw,List.getElem?_range hi] at h3
    rw [hy,hys3,r0,r1,r2] at h3
    exact (O1 h3).symm
   have hs:s=cR i:=by
    have h3:(Br.map LL)[i]?=some (LL (xs[i]'ae).1):=by rw [Pw,h2]; rfl
    rw [Jo,Pw,List.getElem?_range hi] at h3
    rw [hy,hys3,r0,r1,r2] at h3
    exact nL (O1 h3).symm
   rw [hk,hb,hs]
 apply PK
 intro j
 by_cases hj:j<129
 ·obtain ⟨a,b,hab,hb⟩:∃ a b,j=a*3+b/\b<3:=⟨j / 3,j % 3,ae,ae⟩
  subst hab
  unfold gM
  rw [qw (fun k=>[Value.string (cR k),.int .u8 (dc k),.int .i64 (cP.getD k 0:Nat)]) 3 (fun x=>rfl) _ a b hb,List.getElem?_range ae]
  show cs[a*3+b]?=[Value.string (cR a),.int .u8 (dc a),.int .i64 ((cP.getD a 0:Nat):Int)][b]?
  have:=each a ae
  rw [<- this,List.getElem?_take,OH hb,List.getElem?_drop]
 ·have hr:(gM cR dc).length=129:=AO _ _
  rw [Pf ae,Pf ae]
def Ey {P:Program} {W:World} {name:String} {g:Nat} {cs:Array XB} (hg:P.globalNamed name=some g) (hv:W.var? P name=some cs):∃ e f,W.heap[g]?=some (.cells cs e f):=by
 unfold World.var? at hv
 rw [hg] at hv
 have hv:(match (W.heap[g]?:Option Obj) with | some (.cells cs _ _)=>some cs | _=>none)=some cs:=hv
 split at hv
 ·rename_i cs' e f hh
  cases hv
  exact ⟨e,f,hh⟩
 ·cases hv
def Nh : Tryz.prog.underlying 29 = some (.interface #[("Error", 85)]) :=aB
def Jp {W:World} (h:laidMetH Tryz.prog Rows.unitAssemblesRow.laid W):rE W.heap/\Laid W.heap/\rV W.heap:=by
 rw [MakeChecks.laidMetH_plain _ _ _ aB] at h
 obtain ⟨ps,⟨g0,t0,cs0,f0,p0,q0,hg0,ht0,hv0,hd0,⟨g1,t1,cs1,f1,p1,q1,hg1,ht1,hv1,hd1,⟨g2,t2,cs2,f2,p2,q2,hg2,ht2,hv2,hd2,⟨g3,t3,cs3,f3,p3,q3,hg3,ht3,hv3,hd3,⟨g4,t4,cs4,f4,p4,q4,hg4,ht4,hv4,hd4,⟨g5,t5,cs5,f5,p5,q5,hg5,ht5,hv5,hd5,_,_⟩,_⟩,_⟩,_⟩,_⟩,_⟩,_,_⟩:=h
 obtain rfl:=O1 ((show Tryz.prog.globalNamed _=some 3 from aB).symm.trans hg2)
 obtain rfl:=O1 ((show Tryz.prog.globalNamed _=some 1 from aB).symm.trans hg3)
 obtain rfl:=O1 ((show Tryz.prog.globalNamed _=some 5 from aB).symm.trans hg4)
 obtain rfl:=O1 ((show Tryz.prog.globalNamed _=some 4 from aB).symm.trans hg5)
 have h2:(Tryz.prog.globals[3]?).map (·.type)=some 295:=aB
 obtain rfl:=O1 (h2.symm.trans ht2)
 have h3:(Tryz.prog.globals[1]?).map (·.type)=some 215:=aB
 obtain rfl:=O1 (h3.symm.trans ht3)
 have h4:(Tryz.prog.globals[5]?).map (·.type)=some 29:=aB
 obtain rfl:=O1 (h4.symm.trans ht4)
 have h5:(Tryz.prog.globals[4]?).map (·.type)=some 29:=aB
 obtain rfl:=O1 (h5.symm.trans ht5)
 have hc:=Lib.cells_of_tab (n:=20) (e:=209) (k:=.u64) (zs:=Lib.pow10Tab) aB aB aB aB hd2
 have hr:=FZ hd3
 obtain ⟨e2,ff2,ho2⟩:=Ey hg2 hv2
 obtain ⟨e3,ff3,ho3⟩:=Ey hg3 hv3
 obtain ⟨_,w4,v4,e4,_⟩:=iface_of_trod Nh hd4
 obtain ⟨_,w5,v5,e5,_⟩:=iface_of_trod Nh hd5
 have c4:=World.var?_cell hg4 hv4 0
 have c5:=World.var?_cell hg5 hv5 0
 rw [<- PC,e4] at c4
 rw [<- PC,e5] at c5
 refine ⟨⟨e3,ff3,?_⟩,⟨⟨_,c5,rfl⟩,⟨_,c4,rfl⟩⟩,⟨e2,ff2,?_⟩⟩
 ·rw [ho3,<- hr]
 ·rw [ho2,<- hc]
def IU (os:Os) (args:Array XB):laidMetH Tryz.prog Rows.unitAssemblesRow.laid ((World.doorLaid Tryz.prog 400 os).forCall (fun _ _=>0) ⟨#[],args,[]⟩).memory :=
 laidMetH_of_parts3 (fuel:=8) (laidMet_of_run' 8 aB aB) aB aB
def MJ:Kids Tryz.prog (·<Tryz.prog.types.size):=kids_rows aB aB
def sliceB:((List.range Tryz.prog.types.size).all fun t=>match Tryz.prog.underlying t with | some (.slice e)=>decide (0<Tryz.prog.cellsOf e) | _=>true)=true:=aB
def Lu {t e:TypeId} (ht:t<Tryz.prog.types.size) (hu:Tryz.prog.underlying t=some (.slice e)):0<Tryz.prog.cellsOf e:=by
 have:=O9.1 sliceB t (List.mem_range.2 ht)
 rw [hu] at this
 exact OE this
theorem si {H:Type} {enc:TypeId × XB->H} {W W':World} {sp:Nat->Bool} (hB:Below W.heap.size W W'):∀ {ts:List TypeId} {vs:List XB} {ds:List (DataW H)} {ps:List MemPlace},(∀ t∈ts,t<Tryz.prog.types.size) ->
  DataW.TrodAll enc Tryz.prog W 0 (fun _=>true) true ts vs ds ps->(∀ p∈ps,p.block<W.heap.size)->(∀ p∈ps,sp p.block=true)->DataW.TrodAll enc Tryz.prog W' 0 sp true ts vs ds ps
 | [],_,_,_,_,h,_,_=>by
  obtain ⟨rfl,rfl,rfl⟩:=trodAll_nil h
  exact trodAll_mk0
 | t::ts,_,_,_,ht,h,hl,hs=>by
  obtain ⟨v,vs1,d,ds1,a,b,rfl,rfl,rfl,⟨n,h1⟩,h2⟩:=trodAll_cons h
  exact ⟨a,b,⟨n,DataW.trod_stays MJ (fun h hu=>Lu h hu) (fun h=>by cases h) (ht t (Pe ..)) h1 (fun p hp=>DR hB (hl p (Pl _ hp))) (fun p hp=>hs p (Pl _ hp))⟩,
   si hB (fun t h=>ht t (OY _ h)) h2 (fun p hp=>hl p (Pj _ hp)) (fun p hp=>hs p (Pj _ hp)),rfl⟩
def HI {H:Type} {enc:TypeId × XB->H} {f:Func} {s:ChangeSpec} {apart fresh handsOn:Bool} {W W':World} {args:Array XB} {v:XB} {ds gs:List (DataW H)} {before:List MemPlace} (hv0:s.vars=[])
  (hW:DataW.Whole enc Tryz.prog f.params.toList s.vars apart W args.toList ds gs before)
  (hres:∀ (b:Nat) (sp:Nat->Bool) (hd:Bool),DataW.TrodAll enc Tryz.prog W' b sp hd f.resultTypes.toList (v.resultList f.resultTypes.size) (s.fn H (ds++gs)).results [])
  (hargs:(s.fn H (ds++gs)).args=ds) (gb:(s.fn H (ds++gs)).vars=[]) (hts:∀ t∈f.params.toList,t<Tryz.prog.types.size) (hB:Below W.heap.size W W') :
  s.post enc Tryz.prog f apart fresh handsOn false W args v W':=by
 have hlt:=hW.lt
 have hW':=hW
 obtain ⟨p,q,hA,hV,rfl,hz,hn⟩:=hW
 rw [hv0] at hV
 obtain ⟨rfl,rfl⟩:=trodVars_none hV
 rw [Pr] at hlt hW'
 refine ⟨ds,[],p,[],p,[],hW',hres _ _ _,?_,?_,hB.frame _,fun h=>by cases h⟩
 ·rw [hargs]
  exact si hB hts hA hlt (fun p hp=>OK (hlt p hp))
 ·rw [gb,hv0]
  rfl
section
variable {H:Type} {enc:TypeId × XB->H} {W:World} {base n:Nat} {sp:Nat->Bool} {held:Bool} {cs:List XB} {y:DataW H × List MemPlace}
end
open Go.ChangeMaps
def BV {w:World} (h:w.ShapedOpen Tryz.prog):∃ m,w.cell? ⟨2,0,none⟩=some (.int .i64 m) :=
 cell_of_shapedOpen_int (g:=2) (t:=3) (zero:=#[.int .i64 0]) h (OE aB) aB rfl aB aB aB
def Mu {W:World} (h:rE W.heap/\Laid W.heap/\rV W.heap) (hs:W.ShapedOpen Tryz.prog):Fx W.heap:=by
 obtain ⟨m,hm⟩:=BV hs
 exact ⟨h.1,h.2.1,h.2.2,m,by rw [gT] at hm; exact hm,trivial⟩
def yb {H:Type} {enc:TypeId × XB->H} {a:Assume} {C:Checked} {os:Os} {f:FuncId} {fn:Func} {s:ChangeSpec} {conds:List PathCond} {apart fresh handsOn again:Bool} {X:World->Array XB->Prop}
  (hX:∀ (w w':World) (args:Array XB),w.heap=w'.heap->X w args->X w' args)
  (own:ownKnob C.prog.godebug=none) (started:os.Started) (noInit:C.prog.inits.idxOf? f=none) (hfn:C.prog.funcs[f]?=some fn)
  (witness:∃ (w:World) (tape:Tape) (i:Input),w.os=os/\(w.forCall tape i).Shaped C.prog/\i.vars=[]/\Input.okWide C.prog (w.forCall tape i) .any w.heap.size f i /\
   ((s.pre enc C.prog fn conds apart (w.forCall tape i).memory i.args/\X (w.forCall tape i).memory i.args)/\sizedMet enc C.prog fn (OpenSpec.ofChange s) apart (w.forCall tape i).memory i.args)/\a.holds C.prog (lone (Frame.enter C.prog f i.args .normal) [] (w.forCall tape i)))
  (contract:∀ (W:World) (base:Nat) (args:Array XB) (ds gs:List (DataW H)) (before:List MemPlace),
   (∀ (j:Nat) t v,fn.params[j]?=some t->args[j]?=some v->Value.okWide C.prog W .any base t v) ->
   DataW.Whole enc C.prog fn.params.toList s.vars apart W args.toList ds gs before->W.ShapedOpen C.prog->X W args ->
   Calls C.prog f args W fun e W'=>∃ v,e=.returned v/\s.post enc C.prog fn apart fresh handsOn again W args v W') :
  ReturnsInHanded a C os f .any (fun w args=>(s.pre enc C.prog fn conds apart w args/\X w args)/\sizedMet enc C.prog fn (OpenSpec.ofChange s) apart w args) (s.post enc C.prog fn apart fresh handsOn again):=by
 refine returnsInHanded_of_calls own started noInit witness ?_
 intro w tape i _ hsh _ hok hpre hholds
 obtain ⟨_,_,_,fn',hfn',_,_,_,_,hval⟩:=hok
 have e:fn'=fn:=O1 (hfn'.symm.trans hfn)
 subst e
 obtain ⟨⟨⟨ds,gs,before,hw,hc⟩,hx⟩,hz⟩:=hpre
 have hw':=DataW.Whole.of_heap (w':=w.forCall tape i) (by rfl) hw
 refine (contract (w.forCall tape i) w.heap.size i.args ds gs before hval hw' hsh (hX _ _ _ (by rfl) hx)).mono fun e W' ⟨v,he,hp⟩=>?_
 subst he
 exact ChangeSpec.post_blind hp
def rL:(Tryz.f3.params.toList.all fun t=>decide (t<Tryz.prog.types.size))=true:=aB
def rH:Tryz.prog.inPlace 3=Rows.unitAssemblesRow.inPlace:=aB
def rA:Tryz.prog.unfollowed 3=Rows.unitAssemblesRow.unfollowed:=aB
def rI:Tryz.prog.recurses 3=Rows.unitAssemblesRow.recurses:=aB
def rK:Tryz.prog.varsNamed 3=Rows.unitAssemblesRow.named:=aB
def rJ:joinedFacts Tryz.prog 3 Tryz.f3 Rows.unitAssemblesSpec Rows.unitAssemblesRow=true:=by
 unfold joinedFacts
 rw [rH,rA,rI,rK]
 kernel_rfl
def qi (os:Os) (started:os.Started) (H:Type) (enc:TypeId × XB->H) :
  ReturnsInHanded {} Tryz.checked os 3 .any (fun w args=>(Rows.unitAssemblesSpec.pre enc Tryz.prog Tryz.f3 [] false w args/\laidMetH Tryz.prog Rows.unitAssemblesRow.laid w)/\sizedMet enc Tryz.prog Tryz.f3 (OpenSpec.ofChange Rows.unitAssemblesSpec) false w args)
   (Rows.unitAssemblesSpec.post enc Tryz.prog Tryz.f3 false true false false):=by
 refine yb (C:=Tryz.checked) (X:=fun w _=>laidMetH Tryz.prog Rows.unitAssemblesRow.laid w) (fun _ _ _ hh h=>h.of_heap hh) NW started aB Tryz.func3
  (ChangeSpec.witness_shaped (enc:=enc) (C:=Tryz.checked) (os:=os) (X:=fun w _=>laidMetH Tryz.prog Rows.unitAssemblesRow.laid w) false (World.doorLaid Tryz.prog 400 os) #[.string ⟨#[]⟩] 8 rfl (World.shaped_of_RefB aB aB) aB aB aB (IU os _)) ?_
 intro W base args ds gs before hval0 hW hsh hL
 have hval:∀ (j:Nat) t v,Tryz.f3.params[j]?=some t->args[j]?=some v->Value.okWide Tryz.prog W .any base t v:=hval0
 have hW':=hW
 obtain ⟨p,q,hA0,hV,rfl,hfz,hnd⟩:=hW
 have hA:DataW.TrodAll enc Tryz.prog W 0 (fun _=>true) true Tryz.f3.params.toList args.toList ds p:=hA0
 have hpf:Tryz.f3.params=#[9]:=aB
 rw [hpf] at hA hval
 clear hA0 hval0
 obtain ⟨v0,vs0,d0,ds0,p0,q0,hv0,rfl,rfl,t0,hA1⟩:=trodAll_cons hA
 obtain ⟨rfl,rfl,rfl⟩:=trodAll_nil hA1
 obtain ⟨args⟩:=args
 simp only at hv0
 subst hv0
 obtain ⟨rfl,rfl⟩:=trodVars_none hV
 obtain ⟨x0,rfl,rfl,rfl,h0⟩:=open_string u9 (hval 0 9 v0 rfl rfl) t0
 simp only [List.append_nil] at hW'
 refine (CS (Jj x0 _ (Mu (Jp hL) hsh)) (fun _ _ h=>h.2)).mono fun e W' ⟨v,he,hB,hv,_⟩=>?_
 subst he hv
 exact ⟨_,rfl,HI rfl hW' (fun _ _ _=>trodAll_mk1 (shut_bool u4 _)) rfl rfl (fun t ht=>OE (O9.1 rL t ht)) hB⟩
def rB:Rows.UnitAssemblesSaid :=
 OpenClaim.holds_of_wide 3 Tryz.f3 rfl rfl rfl rfl rfl rfl rfl ⟨rfl,rfl,rfl,rfl,rfl⟩ rfl rfl rfl rfl rfl aB Tryz.func3 rJ
  (OE aB) (by unfold Func.isWrapper; first | (rw [OH (by decide +kernel)]; kernel_rfl) | (rw [OG (by decide +kernel)]; exact ⟨rfl,rfl⟩))
  (fun os started H enc _=>qi os started H enc)
end Go.Sx.Ob
