/- Contracts over heaps, part 4. Condition: as each statement says. -/
import Derived.Test.YtfkjiiapldkoeaaGreatDoorP3
import Derived.Test.YtfkjiiapldkoeaaGreatDoorBtH
set_option linter.all false
set_option maxRecDepth 100000
set_option maxHeartbeats 4000000
namespace Go.Sx.Ob
open Go.Proofs
def KM:Array (Nat × XB):=#[(0,.agg #[.string ⟨#[110,111,112]⟩,.int .u8 (0:Int),.int .i64 (1:Int)]),(1,.agg #[.string ⟨#[104,97,108,116]⟩,.int .u8 (1:Int),.int .i64 (1:Int)]),(2,.agg #[.string ⟨#[114,101,116]⟩,.int .u8 (2:Int),.int .i64 (1:Int)]),(3,.agg #[.string ⟨#[112,114,105,110,116]⟩,.int .u8 (3:Int),.int .i64 (2:Int)]),(4,.agg #[.string ⟨#[105,110]⟩,.int .u8 (4:Int),.int .i64 (2:Int)]),(5,.agg #[.string ⟨#[112,117,115,104]⟩,.int .u8 (5:Int),.int .i64 (2:Int)]),(6,.agg #[.string ⟨#[112,111,112]⟩,.int .u8 (6:Int),.int .i64 (2:Int)]),(7,.agg #[.string ⟨#[106,114]⟩,.int .u8 (7:Int),.int .i64 (2:Int)]),(8,.agg #[.string ⟨#[110,101,103]⟩,.int .u8 (8:Int),.int .i64 (2:Int)]),(9,.agg #[.string ⟨#[110,111,116]⟩,.int .u8 (9:Int),.int .i64 (2:Int)]),(10,.agg #[.string ⟨#[122,116,117,114,110]⟩,.int .u8 (10:Int),.int .i64 (3:Int)]),(11,.agg #[.string ⟨#[122,99,111,110,106]⟩,.int .u8 (11:Int),.int .i64 (3:Int)]),(12,.agg #[.string ⟨#[109,111,118]⟩,.int .u8 (16:Int),.int .i64 (4:Int)]),(13,.agg #[.string ⟨#[97,100,100]⟩,.int .u8 (17:Int),.int .i64 (4:Int)]),(14,.agg #[.string ⟨#[115,117,98]⟩,.int .u8 (18:Int),.int .i64 (4:Int)]),(15,.agg #[.string ⟨#[109,117,108]⟩,.int .u8 (19:Int),.int .i64 (4:Int)]),(16,.agg #[.string ⟨#[100,105,118]⟩,.int .u8 (20:Int),.int .i64 (4:Int)]),(17,.agg #[.string ⟨#[97,110,100]⟩,.int .u8 (21:Int),.int .i64 (4:Int)]),(18,.agg #[.string ⟨#[111,114]⟩,.int .u8 (22:Int),.int .i64 (4:Int)]),(19,.agg #[.string ⟨#[120,111,114]⟩,.int .u8 (23:Int),.int .i64 (4:Int)]),(20,.agg #[.string ⟨#[115,104,108]⟩,.int .u8 (24:Int),.int .i64 (4:Int)]),(21,.agg #[.string ⟨#[115,104,114]⟩,.int .u8 (25:Int),.int .i64 (4:Int)]),(22,.agg #[.string ⟨#[108,116]⟩,.int .u8 (26:Int),.int .i64 (4:Int)]),(23,.agg #[.string ⟨#[101,113]⟩,.int .u8 (27:Int),.int .i64 (4:Int)]),(24,.agg #[.string ⟨#[108,100,98]⟩,.int .u8 (28:Int),.int .i64 (4:Int)]),(25,.agg #[.string ⟨#[108,100,119]⟩,.int .u8 (29:Int),.int .i64 (4:Int)]),(26,.agg #[.string ⟨#[108,100,109]⟩,.int .u8 (30:Int),.int .i64 (4:Int)]),(27,.agg #[.string ⟨#[115,116,109]⟩,.int .u8 (31:Int),.int .i64 (4:Int)]),(28,.agg #[.string ⟨#[122,109,111,118]⟩,.int .u8 (32:Int),.int .i64 (5:Int)]),(29,.agg #[.string ⟨#[122,97,100,100]⟩,.int .u8 (33:Int),.int .i64 (5:Int)]),(30,.agg #[.string ⟨#[122,115,117,98]⟩,.int .u8 (34:Int),.int .i64 (5:Int)]),(31,.agg #[.string ⟨#[122,109,117,108]⟩,.int .u8 (35:Int),.int .i64 (5:Int)]),(32,.agg #[.string ⟨#[122,114,101]⟩,.int .u8 (36:Int),.int .i64 (6:Int)]),(33,.agg #[.string ⟨#[122,105,109]⟩,.int .u8 (37:Int),.int .i64 (6:Int)]),(34,.agg #[.string ⟨#[122,115,101,116]⟩,.int .u8 (38:Int),.int .i64 (7:Int)]),(35,.agg #[.string ⟨#[108,105,115]⟩,.int .u8 (48:Int),.int .i64 (8:Int)]),(36,.agg #[.string ⟨#[116,114,97,112]⟩,.int .u8 (49:Int),.int .i64 (9:Int)]),(37,.agg #[.string ⟨#[108,105]⟩,.int .u8 (50:Int),.int .i64 (10:Int)]),(38,.agg #[.string ⟨#[108,100,112]⟩,.int .u8 (51:Int),.int .i64 (11:Int)]),(39,.agg #[.string ⟨#[106,109,112]⟩,.int .u8 (64:Int),.int .i64 (12:Int)]),(40,.agg #[.string ⟨#[99,97,108,108]⟩,.int .u8 (67:Int),.int .i64 (12:Int)]),(41,.agg #[.string ⟨#[106,122]⟩,.int .u8 (70:Int),.int .i64 (13:Int)]),(42,.agg #[.string ⟨#[106,110,122]⟩,.int .u8 (73:Int),.int .i64 (13:Int)])]
def cR (k:Nat):XA:=match KM[k]? with | some (_,.agg #[.string s,_,_])=>s | _=>⟨#[]⟩
def dc (k:Nat):Int:=match KM[k]? with | some (_,.agg #[_,.int _ b,_])=>b | _=>0
def NG:Tryz.prog.underlying 216=some (.slice 218):=aB
def Oz:(Tryz.prog.info? 218).map (fun i=>(i.zero,i.size,i.bytes))=some (some (.agg #[.string ⟨#[]⟩,.int .u8 0,.int .i64 0]),3,32):=aB
def Ku:Instr.fill (fun j=>some (j*3,3)) ((Array.range (43*3)).map ((Value.agg #[.string ⟨#[]⟩,.int .u8 0,.int .i64 0]).cells[· % (Value.agg #[.string ⟨#[]⟩,.int .u8 0,.int .i64 0]).cells.size]!)) KM.toList=some (gM cR dc).toArray:=aB
def HZ (h:Hp):HC Tryz.prog 121 #[] h fun v h'=>v=.slice (some ⟨h.size,0,none⟩) 43 43/\bf h' h.size 218 (gM cR dc)/\Ext h h':=by
 refine ba (args:=[]) mixed Tryz.func121 aB pD ?_;show (T.fb Tryz.prog (Instr.buildSlice 216 43 KM) false [(false,[.slice 0])] <| fun (p0:Option XC) (l1:Nat) (l2:Nat)=>T.ret (.slice p0 l1 l2)) [] _ h;refine eM NG Oz ae ae Ku ?_;intro h1 b1 e1 z1;exact ⟨rfl,b1,e1⟩
def GC {nm:Nat->XA} {by_:Nat->Int} {k:Nat} (hk:k<43):(gM nm by_)[k*3+2]?=some (.int .i64 (cP.getD k 0:Nat)):=by
 unfold gM;rw [qw _ 3 aj _ _ _ ae];simp [hk]
def Hv (h:Hp) (op:Int) (ho:Sm op):HC Tryz.prog 91 #[.int .i64 op] h fun w h'=>w=.int .i64 (dB op:Nat)/\Ext h h':=by
 refine ba (args:=[.int .i64 op]) mixed Tryz.func91 aB (mW op) ?_;unfold jx aS aH;refine aK (HZ h) ?_;rintro _ h1 ⟨rfl,b1,e1⟩;refine ⟨((some ⟨h.size,0,none⟩,43,43),()),rfl,ao ?_⟩;have z0:op<1\/43<op->dB op=0:=by
  intro hh
  by_cases h0:dB op=0
  ·exact h0
  ·have:=DK op h0
   omega
 refine ai (fun q=>?_) (fun q=>?_)
 ·have q:=OE q;rw [z0 (.inl q)];exact ⟨rfl,e1⟩
 have q:=OF q;refine ai (fun r=>?_) (fun r=>?_)
 ·have r:op>((43:Nat):Int):=OE r;rw [z0 (.inr ae)];exact ⟨rfl,e1⟩
 have r:¬ op>((43:Nat):Int):=OF r;obtain ⟨k,hk⟩:∃ k:Nat,op=(k:Int)+1:=⟨(op-1).toNat,ae⟩
 rw [wrap_i64 ae ae,show op-1=(k:Int) from ae];have hk43:k<43:=ae
 refine aC ⟨ae,ae⟩ ?_;refine au rfl ?_;rw [show Int.toNat (k:Int)=k from rfl,az,az];have hs:dB op=cP.getD k 0:=by
  unfold dB;rw [OG ae,show (op-1).toNat=k from ae]
 refine af b1 (((cP.getD k 0:Nat):Int),()) ?_ ?_
 ·show List.take 1 (List.drop (0+k*3+2) (gM cR dc))=[.int .i64 ((cP.getD k 0:Nat):Int)]
  have:=GC (nm:=cR) (by_:=dc) hk43
  rw [PQ];obtain ⟨hlt,hv⟩:=List.getElem?_eq_some_iff.1 this;rw [OM hlt,List.take_succ_cons,List.take_zero,hv]
 ·rw [hs];exact ⟨rfl,e1⟩
structure jM where
 kind:Nat
 items:List cd
 name:XA
 e:fG
 sec:Nat
def cg:jM:=⟨0,[],ct,fB,0⟩
def dU (z:Bool):List Tok->Except Nat Int
 | [t]=>if t.kind=1/\(fJ t.text.data.toList).2.2=true/\(fJ t.text.data.toList).2.1=z then .ok (fJ t.text.data.toList).1 else .error 20
 | _=>.error 20
def fa (lo hi:Int) (ts:List Tok):Except Nat Int :=
 match bL ts with
 | .error e=>.error e
 | .ok x=>if x.ay≠[]\/Bm x.num<lo\/hi<Bm x.num then .error 21 else .ok (Bm x.num)
def jt:List Tok->Except Nat XA
 | [t]=>if t.kind=1/\bI t.text.data.toList=true then .ok t.text else .error 20
 | _=>.error 20
inductive F1 where
 | rP (z second third:Bool)
 | BQ (lo hi:Int)
 | val (pool:Bool)
def dq (s:Nat):List F1 :=
 if s=1 then []
 else if s=2 then [.rP false false false]
 else if s=3 then [.rP true false false]
 else if s=4 then [.rP false false false,.rP false true false]
 else if s=5 then [.rP true false false,.rP true true false]
 else if s=6 then [.rP false false false,.rP true true false]
 else if s=7 then [.rP true false false,.rP false true false,.rP false false true]
 else if s=8 then [.rP false false false,.BQ (-128) 127]
 else if s=9 then [.BQ 0 255]
 else if s=11 then [.rP false false false,.val true]
 else if s=12 then [.val false]
 else [.rP false false false,.val false]
def dy (x:cd) (n:Int):cd:={ x with inst:={ x.inst with n:=n } }
def pG (x:cd) (n:Int):cd:={ x with inst:={ x.inst with a:=n } }
def gk (x:cd) (n:Int):cd:={ x with inst:={ x.inst with b:=n } }
def nZ (x:cd) (e:fG):cd:={ x with e:=e }
def rp (pool:Bool) (ts:List Tok):Except Nat fG :=
 match pool with
 | false=>bL ts
 | true=>match ts with
  | []=>.error 20
  | t::r=>if eE t 61=true then bL r else .error 20
def cS (x:cd) (r:F1) (ts:List Tok):Except Nat cd :=
 match r with
 | .rP z second third=>match dU z ts with
  | .error e=>.error e
  | .ok n=>.ok (if third then dy x n else if second then gk x n else pG x n)
 | .BQ lo hi=>match fa lo hi ts with
  | .error e=>.error e
  | .ok n=>.ok (dy x n)
 | .val pool=>match rp pool ts with
  | .error e=>.error e
  | .ok y=>.ok (nZ x y)
def dK:cd->List F1->List (List Tok)->Except Nat cd
 | x,r::rs,t::ts=>match cS x r t with
  | .error e=>.error e
  | .ok y=>dK y rs ts
 | x,_,_=>.ok x
def ef (op:Int):cd:={ dA 2 with inst:={ lm with op:=op } }
def eV (op:Int) (args:List (List Tok)):Except Nat cd :=
 if (dq (dB op)).length≠args.length then .error 20 else dK (ef op) (dq (dB op)) args
def pf (k:Nat) (ts:List Tok):Except Nat cd :=
 if k=5 then match fa (-128) 255 ts with
  | .error e=>.error e
  | .ok n=>.ok { dA 5 with n:=n }
 else match bL ts with
  | .error e=>.error e
  | .ok x=>.ok { dA k with e:=x }
def cL (k:Nat):List (List Tok)->Except Nat (List cd)
 | []=>.ok []
 | t::ts=>match pf k t with
  | .error e=>.error e
  | .ok x=>match cL k ts with
   | .error e=>.error e
   | .ok l=>.ok (x::l)
def bX (op:XA):Int :=
 let o:=op.data.toList
 if o=[112,111,111,108] then 0
 else if o=[97,108,105,103,110]\/o=[115,112,97,99,101]\/o=[103,108,111,98,97,108]\/o=[115,101,99,116,105,111,110] then 1
 else if o=[101,113,117] then 2
 else if o=[98,121,116,101]\/o=[119,111,114,100] then -1
 else -2
def eP (x:cd):jM:={ cg with kind:=1,items:=[x] }
def ag (args:List (List Tok)) (i:Nat):List Tok:=args.getD i []
def dI (op:XA) (args:List (List Tok)):Except Nat (jM × Nat) :=
 let o:=op.data.toList
 if bX op=-2\/(0<=bX op/\(args.length:Int)≠bX op) then .error 20
 else if o=[112,111,111,108] then .ok (eP (dA 4),0)
 else if o=[97,108,105,103,110] then match fa 1 256 (ag args 0) with
  | .error e=>.error e
  | .ok n=>if mv n then .ok (eP { dA 3 with n:=n },2) else .error 21
 else if o=[115,112,97,99,101] then match fa 0 1048576 (ag args 0) with
  | .error e=>.error e
  | .ok n=>.ok (eP { dA 7 with n:=n },1)
 else if o=[98,121,116,101] then if args=[] then .error 20 else match cL 5 args with
  | .error e=>.error e
  | .ok l=>.ok ({ cg with kind:=2,items:=l },1)
 else if o=[119,111,114,100] then if args=[] then .error 20 else match cL 6 args with
  | .error e=>.error e
  | .ok l=>.ok ({ cg with kind:=2,items:=l },1)
 else if o=[101,113,117] then match jt (ag args 0) with
  | .error e=>.error e
  | .ok s=>match bL (ag args 1) with
   | .error e=>.error e
   | .ok x=>.ok ({ cg with kind:=3,name:=s,e:=x },2)
 else if o=[103,108,111,98,97,108] then match jt (ag args 0) with
  | .error e=>.error e
  | .ok s=>.ok ({ cg with kind:=4,name:=s },2)
 else match ag args 0 with
  | [t]=>if t.kind=1/\t.text.data.toList=[116,101,120,116] then .ok ({ cg with kind:=5 },2) else if t.kind=1/\t.text.data.toList=[100,97,116,97] then .ok ({ cg with kind:=5,sec:=1 },2) else .error 20
  | _=>.error 20
def kI (nm:Nat->List UInt8) (s:List UInt8):Nat->Nat
 | 0=>0
 | k+1=>match kI nm s k with
  | 0=>if nm k=s then k+1 else 0
  | n=>n
def y7 (k:Nat):List UInt8:=(cR k).data.toList
def iM (op:XA):Nat:=kI y7 op.data.toList 43
def eL (l:Ln) (data:Bool):Except Nat jM :=
 if l.op=ct then .ok cg
 else if iM l.op≠0 then match eV (iM l.op) l.args with
  | .error e=>.error e
  | .ok x=>if data then .error 21 else .ok (eP x)
 else match dI l.op l.args with
  | .error e=>.error e
  | .ok (t,w)=>if w=2\/w=(if data then 1 else 0) then .ok t else .error 21
def lM {z:Bool} {ts:List Tok} {n:Int} (h:dU z ts=.ok n):0<=n/\n<(if z then 4 else 8):=by
 unfold dU at h;split at h
 ·rename_i t;split at h
  ·rename_i hh;injection h with h
   subst h;obtain ⟨_,h2,h3⟩:=hh;generalize t.text.data.toList=s at h2 h3;unfold fJ at h2 h3 ⊢;split
   ·rename_i a b;simp only at h2 h3;split at h2
    ·rename_i g;rw [OH g] at h3 ⊢;simp only at h3 ⊢;rw [<- h3]
     simp
     omega
    ·rename_i g;rw [OG g] at h3 ⊢;split at h2
     ·rename_i g2;rw [OH g2] at h3 ⊢;simp only at h3 ⊢;rw [<- h3]
      simp
      omega
     ·cases h2
   ·rename_i hno;exfalso;split at h2
    ·rename_i a b;exact hno a b rfl
    ·cases h2
  ·cases h
 ·cases h
def uF {lo hi n:Int} {ts:List Tok} (h:fa lo hi ts=.ok n):lo<=n/\n<=hi:=by
 unfold fa at h;split at h
 ·cases h
 ·split at h
  ·cases h
  ·injection h with h
   omega
def jn {ts:List Tok} {x:fG} (hw:Wf ts) (h:bL ts=.ok x):Good x:=by
 unfold bL at h
 have:=ki 32 ts hw
 cases hs:nw 32 ts with
 | error e=>rw [hs] at h; cases h
 | ok q =>
  rw [hs] at h this;simp only at h;split at h
  ·injection h with h
   subst h;exact this.1
  ·cases h
def zQ {pool:Bool} {ts:List Tok} {x:fG} (hw:Wf ts) (h:rp pool ts=.ok x):Good x:=by
 unfold rp at h;split at h
 ·exact jn hw h
 ·split at h
  ·cases h
  ·split at h
   ·exact jn hw.tail h
   ·cases h
def LR {α:Type} {l:List α} (h:0=l.length):l=[]:=OQ h.symm
def FP {α:Type} {l:List α} (h:0+1=l.length):∃ a,l=[a]:=by
 match l,h with
 | [a],_=>exact ⟨a,rfl⟩
def CL {α:Type} {l:List α} (h:0+1+1=l.length):∃ a b,l=[a,b]:=by
 match l,h with
 | [a,b],_=>exact ⟨a,b,rfl⟩
def Nc {α:Type} {l:List α} (h:0+1+1+1=l.length):∃ a b c,l=[a,b,c]:=by
 match l,h with
 | [a,b,c],_=>exact ⟨a,b,c,rfl⟩
def Dk {op : Nat} {args : List (List Tok)} {x : cd} (h1 : 1 <= op) (h2 : op <= 43) (hw : ∀ a, a ∈ args -> Wf a) (h : eV (op : Int) args = .ok x) : dY x 0 = true /\ Good x.e := by
  have hs : ∀ k : Fin 44, 1 <= k.1 -> 1 <= dB (k.1 : Int) /\ dB (k.1 : Int) <= 13 :=bO
  have hs' := hs ⟨op, ae⟩ h1;simp only at hs';have gz : Good fB := Good.z
  have key : ∀ (y : cd), y.kind = 2 -> y.name = ct -> y.n = 0 -> y.inst.op = op -> y.inst.form = 0 -> Good y.e -> cj (dB op) y.inst.a y.inst.b y.inst.n = true ->
      (if Jg op then y.inst.n = 0 else nR (dB op) y.inst.n 0 = true /\ y.e = fB) -> dY y 0 = true := by
    intro y k1 k2 k3 k4 k5 k6 k7 k8;have hz : dB (op : Int) ≠ 0 :=ae
    unfold dY;rw [OG (by rw [k1]; decide), OH k1];unfold AJ z1 z4;rw [k4, k2, k3, k5];simp only [decide_true, Bool.true_and, Bool.and_true, decide_eq_true hz]
    by_cases hwn : Jg (op : Int) = true
    · rw [OH hwn] at k8 ⊢
      rw [Fc k6, k8];simp only [decide_true, Bool.true_and, Bool.and_true];refine OK ?_;unfold ru;simp only [k4];rw [k8] at k7;rw [OG hz, OG (by rw [k7]; decide), OG];unfold Ei Jg at *;unfold nR qH;have hw' := OE hwn
      by_cases g : 12 <= dB (op : Int)
      · rw [OK g]
        have : dB (op : Int) = 12 \/ dB (op : Int) = 13 :=ae
        rcases this with e | e <;> rw [e] <;> simp
      · rw [OL g]
        have : dB (op : Int) = 10 \/ dB (op : Int) = 11 :=ae
        rcases this with e | e <;> rw [e] <;> simp
    · rw [OG hwn] at k8 ⊢
      rw [k8.2, Gp, Pz];refine OK ?_;unfold ru;rw [k4, OG hz, OG (by rw [k7]; decide), k5, k8.1]
      simp
  unfold eV at h;split at h
  · cases h
  rename_i hlen0;have hlen : (dq (dB op)).length = args.length :=ae
  clear hlen0;have hc0 : ∀ a b n : Int, ({ (ef (op : Int)) with inst := ⟨op, a, b, n, 0⟩ } : cd).kind = 2 := fun _ _ _ => rfl
  have hw' : Jg (op : Int) = decide (10 <= dB (op : Int)) := rfl;generalize dB (op : Int) = s at *;have : s = 1 \/ s = 9 \/ s = 2 \/ s = 3 \/ s = 4 \/ s = 5 \/ s = 6 \/ s = 7 \/ s = 8 \/ s = 10 \/ s = 11 \/ s = 12 \/ s = 13 :=ae
  rcases this with rfl | rfl | this
  · obtain rfl := LR hlen
    have h : Except.ok (ef (op : Int)) = (Except.ok x : Except Nat cd) := h;injection h with h
    subst h;refine ⟨key _ rfl rfl rfl rfl rfl gz (by simp [cj, ef, dA, lm]) ?_, gz⟩;rw [OG (by rw [hw']; decide)];exact ⟨by simp [nR, ef, dA, lm], rfl⟩
  · obtain ⟨a, rfl⟩ := FP hlen
    cases hn : fa 0 255 a with
    | error e =>
      simp [dK, dq, cS, hn] at h
    | ok n =>
      simp [dK, dq, cS, hn] at h;subst h;have hn := uF hn;refine ⟨key _ rfl rfl rfl rfl rfl gz (by simp [cj, dy, ef, dA, lm]) ?_, gz⟩;rw [OG (by rw [hw']; decide)];refine ⟨?_, rfl⟩;simp [nR, dy, ef, dA, lm];exact ⟨OK hn.1, OK hn.2⟩
  rcases this with rfl | rfl | rfl | rfl | rfl | rfl | rfl | rfl | rfl | rfl | rfl
  all_goals
    simp only [dq, Nat.reduceEqDiff, if_true, if_false, List.length_cons, List.length_nil] at h hlen;simp only [hw'] at key
    first
    | (obtain rfl := LR hlen
       · simp only [dK] at h
         injection h with h
         subst h;exact ⟨key _ rfl rfl rfl rfl rfl gz bO (by rw [OG bO]; exact ⟨bO, rfl⟩), gz⟩)
    | (obtain ⟨a, rfl⟩ := FP hlen
       ·
        simp only [dK, cS] at h;split at h
        · cases h
        rename_i y hy;split at hy
        · cases hy
        rename_i n hn;injection hy with hy
        injection h with h
        subst hy;subst h
        first
        | (have hn := lM hn
           simp at hn;refine ⟨key _ rfl rfl rfl rfl rfl gz (by simp [cj, re, pG, gk, dy, ef, dA, lm, fB] <;> omega) (by simp [nR, pG, gk, dy, ef, dA, lm, fB] <;> omega), gz⟩)
        | (have hn := uF hn
           refine ⟨key _ rfl rfl rfl rfl rfl gz (by simp [cj, re, pG, gk, dy, ef, dA, lm, fB] <;> omega) (by simp [nR, pG, gk, dy, ef, dA, lm, fB] <;> omega), gz⟩)
        | (have hg := zQ (hw a aj) hn
           exact ⟨key _ rfl rfl rfl rfl rfl hg (by simp [cj, re, pG, gk, dy, nZ, ef, dA, lm, fB] <;> omega) (by simp [pG, gk, dy, nZ, ef, dA, lm, fB] <;> omega), hg⟩))
    | (obtain ⟨a, b, rfl⟩ := CL hlen
       ·
        simp only [dK, cS] at h;split at h
        · cases h
        rename_i y hy;split at hy
        · cases hy
        rename_i n hn;injection hy with hy
        subst hy;split at h
        · cases h
        rename_i y2 hy2;split at hy2
        · cases hy2
        rename_i m hm;injection hy2 with hy2
        subst hy2;injection h with h
        subst h;have hn := lM hn;simp at hn
        first
        | (have hm := lM hm
           simp at hm;refine ⟨key _ rfl rfl rfl rfl rfl gz (by simp [cj, re, pG, gk, dy, ef, dA, lm, fB] <;> omega) (by simp [nR, pG, gk, dy, ef, dA, lm, fB] <;> omega), gz⟩)
        | (have hm := uF hm
           refine ⟨key _ rfl rfl rfl rfl rfl gz (by simp [cj, re, pG, gk, dy, ef, dA, lm, fB] <;> omega) (by simp [nR, qH, pG, gk, dy, ef, dA, lm, fB] <;> omega), gz⟩)
        | (have hg := zQ (hw b aj) hm
           exact ⟨key _ rfl rfl rfl rfl rfl hg (by simp [cj, re, pG, gk, dy, nZ, ef, dA, lm, fB] <;> omega) (by simp [pG, gk, dy, nZ, ef, dA, lm, fB] <;> omega), hg⟩))
    | (obtain ⟨a, b, c, rfl⟩ := Nc hlen
       ·
        simp only [dK, cS] at h;split at h
        · cases h
        rename_i y hy;split at hy
        · cases hy
        rename_i n hn;injection hy with hy
        subst hy;split at h
        · cases h
        rename_i y2 hy2;split at hy2
        · cases hy2
        rename_i m hm;injection hy2 with hy2
        subst hy2;split at h
        · cases h
        rename_i y3 hy3;split at hy3
        · cases hy3
        rename_i k hk;injection hy3 with hy3
        subst hy3;injection h with h
        subst h;have hn := lM hn;have hm := lM hm;have hk := lM hk;simp at hn hm hk;refine ⟨key _ rfl rfl rfl rfl rfl gz (by simp [cj, re, pG, gk, dy, ef, dA, lm, fB] <;> omega) (by simp [nR, pG, gk, dy, ef, dA, lm, fB] <;> omega), gz⟩)
def BM {k:Nat} (hk:k=5\/k=6) {ts:List Tok} {x:cd} (hw:Wf ts) (h:pf k ts=.ok x):dY x 1=true/\Good x.e:=by
 unfold pf at h;rcases hk with rfl | rfl
 ·rw [OH rfl] at h;split at h
  ·cases h
  rename_i n hn;injection h with h
  subst h;have hn:=uF hn;refine ⟨?_,Good.z⟩;simp [dY,dA,z1,z2,z3,Gp];omega
 ·rw [OG bO] at h;split at h
  ·cases h
  rename_i y hy;injection h with h
  subst h;have hg:=jn hw hy;refine ⟨?_,hg⟩;simp [dY,dA,z1,z2,z4,Fc hg]
theorem nJ {k:Nat} (hk:k=5\/k=6):∀ {args:List (List Tok)} {l:List cd},(∀ a,a∈args->Wf a)->cL k args=.ok l->∀ x,x∈l->dY x 1=true/\Good x.e
 | [],l,_,h,x,hx=>by
  simp only [cL] at h;injection h with h
  subst h;simp at hx
 | t::ts,l,hw,h,x,hx=>by
  simp only [cL] at h;split at h
  ·cases h
  rename_i y hy;split at h
  ·cases h
  rename_i r hr;injection h with h
  subst h;rcases OZ.1 hx with rfl | hx
  ·exact BM hk (hw t aj) hy
  ·exact nJ hk (fun a ha=>hw a (by simp [ha])) hr x hx
structure kt (t:jM) (data:Bool):Prop where
 items:∀ x,x∈t.items->dY x (if data then 1 else 0)=true/\Good x.e
 kind:t.kind<=5
 single:t.kind=1↔(t.items.length=1/\t.kind≠2)
 name:t.kind=3\/t.kind=4->bI t.name.data.toList=true
 e:Good t.e
 sec:t.sec<=1
def kt.z (data:Bool):kt cg data:=⟨by simp [cg],by simp [cg],by simp [cg],by simp [cg],Good.z,by simp [cg]⟩
def kt.Kp {x:cd} {data:Bool} (h:dY x (if data then 1 else 0)=true) (g:Good x.e):kt (eP x) data :=
 ⟨by simpa [eP] using ⟨h,g⟩,by simp [eP],by simp [eP],by simp [eP],Good.z,by simp [eP,cg]⟩
def xS {ts:List Tok} {s:XA} (h:jt ts=.ok s):bI s.data.toList=true:=by
 unfold jt at h;split at h
 ·split at h
  ·rename_i hh;injection h with h
   subst h;exact hh.2
  ·cases h
 ·cases h
def DT {op:XA} {args:List (List Tok)} {t:jM} {w:Nat} {data:Bool} (hw:∀ a,a∈args->Wf a) (h:dI op args=.ok (t,w)) (hd:w=2\/w=(if data then 1 else 0)):kt t data:=by
 have hag:∀ i,Wf (ag args i):=by
  intro i;unfold ag;rw [OV];cases hh:args[i]? with
  | none=>exact fun t ht=>by simp at ht
  | some a=>exact hw a (List.mem_of_getElem? hh)
 unfold dI at h;simp only at h;split at h
 ·cases h
 split at h
 ·injection h with h
  injection h with h1 h2
  subst h1 h2;have hd:data=false:=by cases data <;> simp_all
  subst hd;exact kt.Kp (by simp [dY,dA,z1,z2,z3,z4,Gp]) Good.z
 split at h
 ·split at h
  ·cases h
  rename_i n hn;split at h
  ·rename_i hp;injection h with h
   injection h with h1 h2
   subst h1 h2;exact kt.Kp (by simp [dY,dA,z1,z2,z3,z4,Gp,hp]) Good.z
  ·cases h
 split at h
 ·split at h
  ·cases h
  rename_i n hn;injection h with h
  injection h with h1 h2
  subst h1 h2;have hd:data=true:=by cases data <;> simp_all
  subst hd;have hn:=uF hn;exact kt.Kp (by simp [dY,dA,z1,z2,z3,z4,Gp]; omega) Good.z
 split at h
 ·split at h
  ·cases h
  split at h
  ·cases h
  rename_i l hl;injection h with h
  injection h with h1 h2
  subst h1 h2;have hd:data=true:=by cases data <;> simp_all
  subst hd;exact ⟨fun x hx=>nJ (.inl rfl) hw hl x hx,aj,aj,aj,Good.z,by simp [cg]⟩
 split at h
 ·split at h
  ·cases h
  split at h
  ·cases h
  rename_i l hl;injection h with h
  injection h with h1 h2
  subst h1 h2;have hd:data=true:=by cases data <;> simp_all
  subst hd;exact ⟨fun x hx=>nJ (.inr rfl) hw hl x hx,aj,aj,aj,Good.z,by simp [cg]⟩
 split at h
 ·split at h
  ·cases h
  rename_i s hs;split at h
  ·cases h
  rename_i x hx;injection h with h
  injection h with h1 h2
  subst h1 h2;exact ⟨by simp [cg],aj,by simp [cg],fun _=>xS hs,jn (hag 1) hx,by simp [cg]⟩
 split at h
 ·split at h
  ·cases h
  rename_i s hs;injection h with h
  injection h with h1 h2
  subst h1 h2;exact ⟨by simp [cg],aj,by simp [cg],fun _=>xS hs,Good.z,by simp [cg]⟩
 split at h
 ·split at h
  ·injection h with h
   injection h with h1 h2
   subst h1 h2;exact ⟨by simp [cg],aj,by simp [cg],aj,Good.z,by simp [cg]⟩
  ·split at h
   ·injection h with h
    injection h with h1 h2
    subst h1 h2;exact ⟨by simp [cg],aj,by simp [cg],aj,Good.z,aj⟩
   ·cases h
 ·cases h
theorem ur (nm:Nat->List UInt8) (s:List UInt8):∀ k,kI nm s k<=k
 | 0=>OP _
 | k+1=>by
  unfold kI
  have:=ur nm s k
  split
  ·split <;> omega
  ·omega
def qc {l:Ln} {data:Bool} {t:jM} (hw:∀ a,a∈l.args->Wf a) (h:eL l data=.ok t):kt t data:=by
 unfold eL at h;split at h
 ·injection h with h
  subst h;exact kt.z data
 split at h
 ·rename_i hf;split at h
  ·cases h
  rename_i x hx;cases data with
  | true=>cases h
  | false =>
   injection h with h
   subst h
   have:=Dk (op:=iM l.op) ae (ur _ _ _) hw hx
   exact kt.Kp this.1 this.2
 ·split at h
  ·cases h
  rename_i t' w hd
  by_cases hh:w=2\/w=(if data=true then 1 else 0)
  ·rw [OH hh] at h;injection h with h
   subst h;exact DT hw hd hh
  ·rw [OG hh] at h;cases h
def GF (r:Except Nat Int):XB :=
 match r with
 | .ok n=>.tuple #[.int .i64 n,.int .i64 0]
 | .error e=>.tuple #[.int .i64 0,.int .i64 (e:Int)]
def Mv (r:Except Nat XA):XB :=
 match r with
 | .ok s=>.tuple #[.string s,.int .i64 0]
 | .error e=>.tuple #[.string ⟨#[]⟩,.int .i64 (e:Int)]
def vk {ts:List Tok} (h:ts.length=1):∃ t,ts=[t]:=by
 match ts,h with
 | [t],_=>exact ⟨t,rfl⟩
def Kv {ts:List Tok} {α:Type} {f:Tok->Except Nat α} (h:¬ ts.length=1):(match ts with | [t]=>f t | _=>.error 20)=.error 20:=by
 match ts,h with
 | [],_=>rfl
 | [t],h=>exact absurd rfl h
 | _::_::_,_=>rfl
def HN {h:Hp} {p:Option XC} {l c:Nat} {ts:List Tok} (v:Vw h p l c ts) (z:Bool):pO Tryz.prog 151 [.slice p l c,.bool z] h (GF (dU z ts)):=by
 refine dk mixed Tryz.func151 aB (yW p l c z) ?_;unfold yJ aS aZ aw aQ bZ;have hl:=v.len;refine ai (fun g=>?_) (fun g=>?_)
 ·have g:(l:Int)≠1:=by simpa using g
  refine ⟨?_,rfl⟩
  have:dU z ts=.error 20:=Kv ae
  rw [this] <;> rfl
 have g:(l:Int)=1:=by simpa using g
 obtain ⟨t,rfl⟩:=vk (show ts.length=1 from ae);obtain ⟨a,rfl,c0⟩:=v.cells 0 aj;have c0:bk h (a.add (0*4)) 0 (enc t):=c0;obtain ⟨q1,q2,_⟩:=fj c0;refine aC ⟨ae,ae⟩ (au rfl (aG ((t.kind:Int),()) q1 (ao ?_)));refine ai (fun r=>?_) (fun r=>?_)
 ·have r:¬ t.kind=1:=by
   have:¬ (t.kind:Int)=1:=by simpa using r
   omega
  refine ⟨?_,rfl⟩
  have:dU z [t]=.error 20:=OG (fun hh=>r hh.1)
  rw [this] <;> rfl
 have r:t.kind=1:=by
  have:(t.kind:Int)=1:=by simpa using r
  omega
 refine aC ⟨ae,ae⟩ (au rfl (aG (t.text,()) q2 (ao ?_)));refine qF (pR t.text h) ?_;refine ai (fun s=>?_) (fun s=>?_)
 ·have s:(fJ t.text.data.toList).2.2=false:=by simpa using s
  refine ⟨?_,rfl⟩
  have:dU z [t]=.error 20:=OG (fun hh=>by rw [s] at hh; simp at hh)
  rw [this] <;> rfl
 have s:(fJ t.text.data.toList).2.2=true:=by simpa using s
 refine ai (fun u=>?_) (fun u=>?_)
 ·have u:¬ (fJ t.text.data.toList).2.1=z:=by simpa using u
  refine ⟨?_,rfl⟩
  have:dU z [t]=.error 20:=OG (fun hh=>u hh.2.2)
  rw [this] <;> rfl
 have u:(fJ t.text.data.toList).2.1=z:=by simpa using u
 refine ⟨?_,rfl⟩
 have:dU z [t]=.ok (fJ t.text.data.toList).1:=OH ⟨r,s,u⟩
 rw [this] <;> rfl
def w8 {h:Hp} {p:Option XC} {l c:Nat} {ts:List Tok} (v:Vw h p l c ts) (hs:∀ t,t∈ts->t.text.size<=9223372036854775807):pO Tryz.prog 129 [.slice p l c] h (Mv (jt ts)):=by
 refine dk mixed Tryz.func129 aB (xo p l c) ?_;unfold vU aN aZ aw bh;have hl:=v.len;refine ai (fun g=>?_) (fun g=>?_)
 ·have g:(l:Int)≠1:=by simpa using g
  refine ⟨?_,rfl⟩
  have:jt ts=.error 20:=Kv ae
  rw [this] <;> rfl
 have g:(l:Int)=1:=by simpa using g
 obtain ⟨t,rfl⟩:=vk (show ts.length=1 from ae);obtain ⟨a,rfl,c0⟩:=v.cells 0 aj;have c0:bk h (a.add (0*4)) 0 (enc t):=c0;obtain ⟨q1,q2,_⟩:=fj c0;refine aC ⟨ae,ae⟩ (au rfl (aG ((t.kind:Int),()) q1 (ao ?_)));refine ai (fun r=>?_) (fun r=>?_)
 ·have r:¬ t.kind=1:=by
   have:¬ (t.kind:Int)=1:=by simpa using r
   omega
  refine ⟨?_,rfl⟩
  have:jt [t]=.error 20:=OG (fun hh=>r hh.1)
  rw [this] <;> rfl
 have r:t.kind=1:=by
  have:(t.kind:Int)=1:=by simpa using r
  omega
 refine aC ⟨ae,ae⟩ (au rfl (aG (t.text,()) q2 (ao ?_)));refine aM (my t.text h (hs t aj)) ?_;refine ai (fun s=>?_) (fun s=>?_)
 ·have s:bI t.text.data.toList=false:=by simpa using s
  refine ⟨?_,rfl⟩
  have:jt [t]=.error 20:=OG (fun hh=>by rw [s] at hh; simp at hh)
  rw [this] <;> rfl
 have s:bI t.text.data.toList=true:=by simpa using s
 refine aC ⟨ae,ae⟩ (au rfl (aG (t.text,()) q2 (ao ?_)));refine ⟨?_,rfl⟩
 have:jt [t]=.ok t.text:=OH ⟨r,s⟩
 rw [this] <;> rfl
def dC {ts:List Tok} {e:Nat} (hw:Wf ts) (h:bL ts=.error e):e=20\/e=21:=by
 unfold bL at h
 have:=ki 32 ts hw
 cases hs:nw 32 ts with
 | error e' =>
  rw [hs] at h this;injection h with h
  subst h;exact this
 | ok q =>
  rw [hs] at h;simp only at h;split at h
  ·cases h
  ·injection h with h
   exact .inl h.symm
def wrap32 {n:Nat} (hn:n<4294967296):IntKind.wrap .i64 (IntKind.wrap .i32 (n:Int))=Bm n:=by
 have h1:IntKind.wrap .i32 (n:Int)=Bm n:=by
  unfold Bm
  by_cases g:n<2147483648
  ·rw [OH g];simp only [IntKind.wrap,IntKind.bits,IntKind.signed,Bool.true_and];split <;> rename_i hh
   ·have:=OE hh; omega
   ·have:¬ _:=fun h=>hh (OK h); omega
  ·rw [OG g];simp only [IntKind.wrap,IntKind.bits,IntKind.signed,Bool.true_and];split <;> rename_i hh
   ·have:=OE hh; omega
   ·have:¬ _:=fun h=>hh (OK h); omega
 rw [h1];unfold Bm;split <;> exact wrap_i64 ae ae
def qQ {h:Hp} {p:Option XC} {l c:Nat} {ts:List Tok} (v:Vw h p l c ts) (hp:∀ i,i∈aE p->i<h.size) (w:Wf ts) (hts:ts.length<=2^40) (lo hi:Int) :
  HC Tryz.prog 127 #[.slice p l c,.int .i64 lo,.int .i64 hi] h fun r h'=>r=GF (fa lo hi ts)/\Ext h h':=by
 refine ba (args:=[.slice p l c,.int .i64 lo,.int .i64 hi]) mixed Tryz.func127 aB (vG p l c lo hi) ?_;unfold rX aS aH av aw aI aQ;refine aK (kG v hp w hts) ?_;rintro r h1 ⟨e1,hr⟩;unfold fa;cases hx:bL ts with
 | error e =>
  rw [hx] at hr;have hr:r=.tuple #[.agg #[.slice none 0 0,.int .u32 0],.int .i64 (e:Int)]:=hr;subst hr;have he:=dC w hx;refine ⟨((none,0,0),(0:Int),(e:Int),()),rfl,ao ?_⟩;refine bm ?_;intro h2 b2 e2 z2;refine ap b2 rfl aj ?_;intro h3 b3 k3 z3;refine aX (by simp; omega) ?_;exact ⟨rfl,e1.trans (Ch.trans e2 k3 (fun i hi hl=>by simp at hi; omega))⟩
 | ok x =>
  rw [hx] at hr;obtain ⟨p1,l1,c1,rfl,sl,gd⟩:=hr;refine ⟨((p1,l1,c1),(x.num:Int),(0:Int),()),rfl,ao ?_⟩;refine bm ?_;intro h2 b2 e2 z2;refine ap b2 rfl aj ?_;intro h3 b3 k3 z3;have b3:bf h3 h1.size 94 [.slice p1 l1 c1,.int .u32 (x.num:Int)]:=b3;have e3:Ext h h3:=e1.trans (Ch.trans e2 k3 (fun i hi hl=>by simp at hi; omega));refine aW rfl ?_;rw [az];refine af b3 ((x.num:Int),()) rfl (ao ?_);refine af b3 ((p1,l1,c1),()) rfl (ao ?_);rw [wrap32 gd.num];have hl1:l1=x.ay.length:=by rw [sl.1,OI]
  refine ai (fun g=>?_) (fun g=>?_)
  ·have g:=OE g;refine ⟨?_,e3⟩;rw [OH (.inl (fun hh=>by rw [hh] at hl1; simp at hl1; omega))] <;> rfl
  have g:=OF g;have hz:x.ay=[]:=OQ ae;refine ai (fun g=>?_) (fun g=>?_)
  ·have g:=OE g;refine ⟨?_,e3⟩;rw [OH (.inr (.inl g))] <;> rfl
  have g:=OF g;refine ai (fun g=>?_) (fun g=>?_)
  ·have g:=OE g;refine ⟨?_,e3⟩;rw [OH (.inr (.inr g))] <;> rfl
  have g':=OF g;refine ⟨?_,e3⟩;rw [OG (by rintro (q | q | q) <;> first | exact q hz | omega)] <;> rfl
def np:F1->XB
 | .rP z s t=>.iface 253 (.agg #[.bool z,.bool s,.bool t])
 | .BQ lo hi=>.iface 255 (.agg #[.int .i64 lo,.int .i64 hi])
 | .val pool=>.iface 257 (.agg #[.bool pool])
def kE:Tryz.prog.underlying 221=some (.slice 20):=aB
def yj:(Tryz.prog.info? 20).map (fun i=>(i.zero,i.size,i.bytes))=some (some .nilIface,1,16):=aB
def SL.lit {h:Hp} {b g:Nat} {e:TypeId} {xs:List XB} (bx:bf h g e xs) (hb:b<=g) (hn:xs.length<9223372036854775808):SL h b e 1 (some ⟨g,0,none⟩) xs.length xs.length (xs.map fun x=>[x]):=by
 refine ⟨aj,aj,g,[],[],rfl,hb,⟨OP _,hn⟩,?_,aj⟩
 have:∀ l:List XB,(l.map fun x=>[x]).flatten=l:=by
  intro l
  induction l with
  | nil=>rfl
  | cons a l ih=>simp [ih]
 rw [this];simpa using bx
def Dr (s:Nat) (h:Hp):HC Tryz.prog 124 #[.int .i64 (s:Int)] h fun w h'=>∃ p c,w=.slice p (dq s).length c/\SL h' h.size 20 1 p (dq s).length c ((dq s).map fun r=>[np r])/\Ext h h':=by
 refine ba (args:=[.int .i64 (s:Int)]) mixed Tryz.func124 aB (tH s) ?_;unfold pX aR aI;refine bm ?_;intro h1 b1 e1 z1;refine bm ?_;intro h2 b2 e2 z2;refine ap (b1.an e2 aj) rfl aj ?_;intro h3 b3 k3 z3;have b3:bf h3 h.size 253 [.bool false,.bool false,.bool false]:=b3;refine ap (b2.an k3 (by simp; omega)) rfl aj ?_;intro h4 b4 k4 z4;have b4:bf h4 h1.size 253 [.bool false,.bool true,.bool false]:=b4;have b5:=b3.an k4 (by simp; omega);have e04:Ext h h4:=Ch.trans (Ch.trans (e1.trans e2) k3 (fun i hi hl=>by simp at hi; omega)) k4 (fun i hi hl=>by simp at hi; omega);have fin:∀ {rs:List F1} {h':Hp},bf h' h4.size 20 (rs.map np)->Ext h4 h'->rs.length<100->∃ p c,(Value.slice (some ⟨h4.size,0,none⟩) rs.length rs.length)=.slice p rs.length c/\SL h' h.size 20 1 p rs.length c (rs.map fun r=>[np r])/\Ext h h':=by
  intro rs h' b e hl;refine ⟨_,_,rfl,?_,e04.trans e⟩
  have:=SL.lit (b:=h.size) b ae (by rw [OI]; omega)
  rw [OI,Ph] at this;exact this
 clear k4 k3 e2 e1 b1 b2 b3;refine ai (fun q=>?_) (fun q=>?_)
 ·obtain rfl:s=1:=fe q;exact ⟨none,0,rfl,SL.nil _ _ _ _,e04⟩
 have r1:¬ s=1:=fy q;refine ai (fun q=>?_) (fun q=>?_)
 ·obtain rfl:s=2:=fe q;refine af b5 (false,false,false,()) rfl (ao ?_);refine eM (cells:=(dq 2).map np) kE yj bO bO aB ?_;intro h' b e z;exact fin (rs:=dq 2) b e bO
 have r2:¬ s=2:=fy q;refine ai (fun q=>?_) (fun q=>?_)
 ·obtain rfl:s=3:=fe q;refine eM (cells:=(dq 3).map np) kE yj bO bO aB ?_;intro h' b e z;exact fin (rs:=dq 3) b e bO
 have r3:¬ s=3:=fy q;refine ai (fun q=>?_) (fun q=>?_)
 ·obtain rfl:s=4:=fe q;refine af b5 (false,false,false,()) rfl (ao ?_);refine af b4 (false,true,false,()) rfl (ao ?_);refine eM (cells:=(dq 4).map np) kE yj bO bO aB ?_;intro h' b e z;exact fin (rs:=dq 4) b e bO
 have r4:¬ s=4:=fy q;refine ai (fun q=>?_) (fun q=>?_)
 ·obtain rfl:s=5:=fe q;refine eM (cells:=(dq 5).map np) kE yj bO bO aB ?_;intro h' b e z;exact fin (rs:=dq 5) b e bO
 have r5:¬ s=5:=fy q;refine ai (fun q=>?_) (fun q=>?_)
 ·obtain rfl:s=6:=fe q;refine af b5 (false,false,false,()) rfl (ao ?_);refine eM (cells:=(dq 6).map np) kE yj bO bO aB ?_;intro h' b e z;exact fin (rs:=dq 6) b e bO
 have r6:¬ s=6:=fy q;refine ai (fun q=>?_) (fun q=>?_)
 ·obtain rfl:s=7:=fe q;refine af b4 (false,true,false,()) rfl (ao ?_);refine eM (cells:=(dq 7).map np) kE yj bO bO aB ?_;intro h' b e z;exact fin (rs:=dq 7) b e bO
 have r7:¬ s=7:=fy q;refine ai (fun q=>?_) (fun q=>?_)
 ·obtain rfl:s=8:=fe q;refine af b5 (false,false,false,()) rfl (ao ?_);refine eM (cells:=(dq 8).map np) kE yj bO bO aB ?_;intro h' b e z;exact fin (rs:=dq 8) b e bO
 have r8:¬ s=8:=fy q;refine ai (fun q=>?_) (fun q=>?_)
 ·obtain rfl:s=9:=fe q;refine eM (cells:=(dq 9).map np) kE yj bO bO aB ?_;intro h' b e z;exact fin (rs:=dq 9) b e bO
 have r9:¬ s=9:=fy q;refine ai (fun q=>?_) (fun q=>?_)
 ·obtain rfl:s=11:=fe q;refine af b5 (false,false,false,()) rfl (ao ?_);refine eM (cells:=(dq 11).map np) kE yj bO bO aB ?_;intro h' b e z;exact fin (rs:=dq 11) b e bO
 have r11:¬ s=11:=fy q;refine ai (fun q=>?_) (fun q=>?_)
 ·obtain rfl:s=12:=fe q;refine eM (cells:=(dq 12).map np) kE yj bO bO aB ?_;intro h' b e z;exact fin (rs:=dq 12) b e bO
 have r12:¬ s=12:=fy q;have hr:dq s=dq 13:=by
  unfold dq;simp [r1,r2,r3,r4,r5,r6,r7,r8,r9,r11,r12]
 rw [hr];refine af b5 (false,false,false,()) rfl (ao ?_);refine eM (cells:=(dq 13).map np) kE yj bO bO aB ?_;intro h' b e z;exact fin (rs:=dq 13) b e bO
def bB (s:Nat):Nat:=if s=4\/s=7 then 8 else if s=5\/s=6 then 4 else 0
def F5 (h:Hp) (n:Int):pO Tryz.prog 86 [.int .i64 n] h (.bool (mv n)):=by
 refine dk mixed Tryz.func86 aB (nv n) ?_;unfold jA aH bE pj aQ bZ;refine bJ (cs:=[(false,[.bool]),(false,[.int .i64])]) (fun y m h'=>∃ k:Nat,y=(false,((2^k:Nat):Int),())/\m=9-k/\k<=9/\h'=h/\(∀ j,j<k->¬ n=((2^j:Nat):Int))) (false,(1:Int),()) 9 rfl
  ⟨0,rfl,rfl,ae,rfl,fun j hj=>ae⟩ ?_
 rintro ⟨b1,n2,⟨⟩⟩ m h1 ⟨k,hy,hm,hk,rfl,hj⟩;cases hy;refine ao ?_;refine ai (fun q=>?_) (fun q=>?_)
 ·have q:=OE q;have hk8:k<=8:=by
   by_cases g:k=9
   ·subst g;exact absurd q bO
   ·omega
  refine ai (fun r=>?_) (fun r=>?_)
  ·have r:n=((2^k:Nat):Int):=by simpa using r
   refine ⟨?_,rfl⟩
   have:k=0\/k=1\/k=2\/k=3\/k=4\/k=5\/k=6\/k=7\/k=8:=ae
   rcases this with rfl | rfl | rfl | rfl | rfl | rfl | rfl | rfl | rfl <;> (rw [r]; rfl)
  ·have r:¬ n=((2^k:Nat):Int):=by simpa using r
   have hp:2^k<=2^8:=Pm ae hk8;have hp2:((2^k:Nat):Int)<=256:=by exact_mod_cast hp
   have hp3:(0:Int)<=((2^k:Nat):Int):=Int.natCast_nonneg _;rw [wrap_i64 ae ae];have h2:(2:Int)*((2^k:Nat):Int)=((2^(k+1):Nat):Int):=by rw [Nat.pow_succ]; omega
   rw [h2];refine aY (cs:=[(false,[.bool]),(false,[.int .i64])]) (false,((2^(k+1):Nat):Int),()) (9-(k+1)) rfl ae rfl ⟨k+1,rfl,rfl,ae,rfl,fun j hj'=>?_⟩
   by_cases g:j=k
   ·subst g; exact r
   ·exact hj j ae
 ·have q:=OF q;have hk9:k=9:=by
   by_cases g:k=9
   ·exact g
   ·have hp:2^k<=2^8:=Pm ae ae;omega
  subst hk9;refine ⟨?_,rfl⟩;have a0:=hj 0 ae;have a1:=hj 1 ae;have a2:=hj 2 ae;have a3:=hj 3 ae;have a4:=hj 4 ae;have a5:=hj 5 ae;have a6:=hj 6 ae;have a7:=hj 7 ae;have a8:=hj 8 ae;unfold mv;simp only [Nat.reducePow] at a0 a1 a2 a3 a4 a5 a6 a7 a8;rw [OL ae,OL ae,OL ae,OL ae,OL ae,OL ae,OL ae,OL ae,OL ae] <;> rfl
def rE (h:Hp):Prop:=∃ e f,h[1]?=some (.cells (gM cR dc).toArray e f)
def rE.an {ws:List Nat} {h h':Hp} (t:rE h) (k:Ch ws h h') (hw:1∉ws):rE h':=by
 obtain ⟨e,f,ht⟩:=t;exact ⟨e,f,k.get ht hw⟩
def rE.NJ {h:Hp} (t:rE h):Bs h:=by
 obtain ⟨e,f,ht⟩:=t;exact ⟨_,_,e,f,ht⟩
theorem zY {h:Hp} {g:Nat} {c:Array XB} {e:TypeId} {f:Nat × Nat} (hg:h[g]?=some (.cells c e f)):∀ (vs:List XB) (i:Nat),(∀ j,j<vs.length->c[i+j]?=vs[j]?)->bk h ⟨g,0,none⟩ i vs
 | [],_,_=>trivial
 | v::vs,i,hv=>by
  refine ⟨?_,zY hg vs (i+1) fun j hj=>?_⟩
  ·rw [az,mJ hg]
   have:=hv 0 aj
   simpa using this
  ·have:=hv (j+1) (by simpa using hj)
   rw [List.getElem?_cons_succ] at this;rw [<- this]; congr 1; omega
def rE.all {h:Hp} (t:rE h):bk h ⟨1,0,none⟩ 0 (gM cR dc):=by
 obtain ⟨e,f,ht⟩:=t;exact zY ht _ 0 (fun j hj=>aj)
def M':XB:=.agg (gM cR dc).toArray
theorem J7 (h:Hp) (K:XB->Hp->Prop):∀ k:Nat,k<43->aV Tryz.prog (Instr.index 215 M' (.int .i64 (k:Int))) h K=K (.agg #[.string (cR k),.int .u8 (dc k),.int .i64 (cP.getD k 0:Nat)]) h
 | 0,_=>aB
 | 1,_=>aB
 | 2,_=>aB
 | 3,_=>aB
 | 4,_=>aB
 | 5,_=>aB
 | 6,_=>aB
 | 7,_=>aB
 | 8,_=>aB
 | 9,_=>aB
 | 10,_=>aB
 | 11,_=>aB
 | 12,_=>aB
 | 13,_=>aB
 | 14,_=>aB
 | 15,_=>aB
 | 16,_=>aB
 | 17,_=>aB
 | 18,_=>aB
 | 19,_=>aB
 | 20,_=>aB
 | 21,_=>aB
 | 22,_=>aB
 | 23,_=>aB
 | 24,_=>aB
 | 25,_=>aB
 | 26,_=>aB
 | 27,_=>aB
 | 28,_=>aB
 | 29,_=>aB
 | 30,_=>aB
 | 31,_=>aB
 | 32,_=>aB
 | 33,_=>aB
 | 34,_=>aB
 | 35,_=>aB
 | 36,_=>aB
 | 37,_=>aB
 | 38,_=>aB
 | 39,_=>aB
 | 40,_=>aB
 | 41,_=>aB
 | 42,_=>aB
 | k+43,hk=>ae
def KR (s0:XA):T :=
 T.loop [aQ,bZ,aQ] [.int .i64 (0:Int),.bool false,.int .i64 (0:Int)] <| fun (n130:Int) (b131:Bool) (n132:Int) =>
 cond (decide (n132<(43:Int)))
 (dh (Instr.index 215 M' (.int .i64 n132)) false [(true,[.string,.int .u8,.int .i64])] <| fun (s133:XA) (n134:Int) (n135:Int) =>
 T.new [bh,.int .u8 (0:Int),.int .i64 (0:Int)] 158 <| fun (a136:XC) =>
 T.ak a136 [.string s133,.int .u8 n134,.int .i64 n135] <|
 T.ah a136 [.string] <| fun (s137:XA) =>
 cond ((ByteArray.toList s137)==(ByteArray.toList s0))
  (aw #[.int .i64 (aH (n132+(1:Int))),.bool true])
  (T.again 0 [.int .i64 n130,.bool b131,.int .i64 (aH (n132+(1:Int)))]))
 (aw #[.int .i64 (0:Int),.bool false])
def MT:qu [.string,.int .u8,.int .i64,.string,.int .u8,.int .i64,.string,.int .u8,.int .i64,.string,.int .u8,.int .i64,.string,.int .u8,.int .i64,.string,.int .u8,.int .i64,.string,.int .u8,.int .i64,.string,.int .u8,.int .i64,.string,.int .u8,.int .i64,.string,.int .u8,.int .i64,.string,.int .u8,.int .i64,.string,.int .u8,.int .i64,.string,.int .u8,.int .i64,.string,.int .u8,.int .i64,.string,.int .u8,.int .i64,.string,.int .u8,.int .i64,.string,.int .u8,.int .i64,.string,.int .u8,.int .i64,.string,.int .u8,.int .i64,.string,.int .u8,.int .i64,.string,.int .u8,.int .i64,.string,.int .u8,.int .i64,.string,.int .u8,.int .i64,.string,.int .u8,.int .i64,.string,.int .u8,.int .i64,.string,.int .u8,.int .i64,.string,.int .u8,.int .i64,.string,.int .u8,.int .i64,.string,.int .u8,.int .i64,.string,.int .u8,.int .i64,.string,.int .u8,.int .i64,.string,.int .u8,.int .i64,.string,.int .u8,.int .i64,.string,.int .u8,.int .i64,.string,.int .u8,.int .i64,.string,.int .u8,.int .i64,.string,.int .u8,.int .i64,.string,.int .u8,.int .i64,.string,.int .u8,.int .i64,.string,.int .u8,.int .i64,.string,.int .u8,.int .i64,.string,.int .u8,.int .i64,.string,.int .u8,.int .i64]:=(cR 0,dc 0,((cP.getD 0 0:Nat):Int),cR 1,dc 1,((cP.getD 1 0:Nat):Int),cR 2,dc 2,((cP.getD 2 0:Nat):Int),cR 3,dc 3,((cP.getD 3 0:Nat):Int),cR 4,dc 4,((cP.getD 4 0:Nat):Int),cR 5,dc 5,((cP.getD 5 0:Nat):Int),cR 6,dc 6,((cP.getD 6 0:Nat):Int),cR 7,dc 7,((cP.getD 7 0:Nat):Int),cR 8,dc 8,((cP.getD 8 0:Nat):Int),cR 9,dc 9,((cP.getD 9 0:Nat):Int),cR 10,dc 10,((cP.getD 10 0:Nat):Int),cR 11,dc 11,((cP.getD 11 0:Nat):Int),cR 12,dc 12,((cP.getD 12 0:Nat):Int),cR 13,dc 13,((cP.getD 13 0:Nat):Int),cR 14,dc 14,((cP.getD 14 0:Nat):Int),cR 15,dc 15,((cP.getD 15 0:Nat):Int),cR 16,dc 16,((cP.getD 16 0:Nat):Int),cR 17,dc 17,((cP.getD 17 0:Nat):Int),cR 18,dc 18,((cP.getD 18 0:Nat):Int),cR 19,dc 19,((cP.getD 19 0:Nat):Int),cR 20,dc 20,((cP.getD 20 0:Nat):Int),cR 21,dc 21,((cP.getD 21 0:Nat):Int),cR 22,dc 22,((cP.getD 22 0:Nat):Int),cR 23,dc 23,((cP.getD 23 0:Nat):Int),cR 24,dc 24,((cP.getD 24 0:Nat):Int),cR 25,dc 25,((cP.getD 25 0:Nat):Int),cR 26,dc 26,((cP.getD 26 0:Nat):Int),cR 27,dc 27,((cP.getD 27 0:Nat):Int),cR 28,dc 28,((cP.getD 28 0:Nat):Int),cR 29,dc 29,((cP.getD 29 0:Nat):Int),cR 30,dc 30,((cP.getD 30 0:Nat):Int),cR 31,dc 31,((cP.getD 31 0:Nat):Int),cR 32,dc 32,((cP.getD 32 0:Nat):Int),cR 33,dc 33,((cP.getD 33 0:Nat):Int),cR 34,dc 34,((cP.getD 34 0:Nat):Int),cR 35,dc 35,((cP.getD 35 0:Nat):Int),cR 36,dc 36,((cP.getD 36 0:Nat):Int),cR 37,dc 37,((cP.getD 37 0:Nat):Int),cR 38,dc 38,((cP.getD 38 0:Nat):Int),cR 39,dc 39,((cP.getD 39 0:Nat):Int),cR 40,dc 40,((cP.getD 40 0:Nat):Int),cR 41,dc 41,((cP.getD 41 0:Nat):Int),cR 42,dc 42,((cP.getD 42 0:Nat):Int),())
def Kw:gb _ MT=gM cR dc:=aB
def FG {L:Lp} {K:XB->Hp->Prop} {h:Hp} (t:rE h) {s:XA} (hk:KR s L K h):yK s L K h :=
 ⟨MT,by rw [Kw]; exact t.all,hk⟩
theorem yd (nm:Nat->List UInt8) (s:List UInt8):∀ (m k:Nat),k<=m->kI nm s k≠0->kI nm s m=kI nm s k
 | 0,k,h,_=>by
  have:k=0:=ae
  rw [this]
 | m+1,k,h,hk=>by
  by_cases e:k=m+1
  ·rw [e]
  ·have ih:=yd nm s m k ae hk;show (match kI nm s m with | 0=>if nm m=s then m+1 else 0 | n=>n)=kI nm s k;rw [ih];cases hh:kI nm s k with
   | zero=>exact absurd hh hk
   | succ n=>rfl
def xi (nm:Nat->List UInt8) (s:List UInt8) (k:Nat) (h:kI nm s k=0):kI nm s (k+1)=if nm k=s then k+1 else 0:=by
 show (match kI nm s k with | 0=>if nm k=s then k+1 else 0 | n=>n)=_;rw [h] <;> rfl
def Jh {h:Hp} (t:rE h) (s:XA):HC Tryz.prog 98 #[.string s] h fun u h'=>u=.tuple #[.int .i64 (iM s:Nat),.bool (decide (iM s≠0))]/\Ext h h':=by
 refine ba (args:=[.string s]) mixed Tryz.func98 aB (zf s) ?_;refine FG t ?_;unfold KR dh aH aw bh aQ bZ;refine bJ (cs:=[(false,[.int .i64]),(false,[.bool]),(false,[.int .i64])]) (fun x n h'=>∃ k:Nat,x.2.2.1=(k:Int)/\k<=43/\n=43-k/\Ext h h'/\kI y7 s.data.toList k=0) ((0:Int),false,(0:Int),()) 43 rfl ⟨0,rfl,ae,ae,Ch.refl _ _,rfl⟩ ?_;rintro ⟨n130,b131,n132,⟨⟩⟩ n h1 ⟨k,hk,hk43,rfl,e1,h0⟩;simp only at hk;subst hk;refine ao ?_;refine ai (fun q=>?_) (fun q=>?_)
 ·have q:=OE q;have hlt:k<43:=ae
  show aV _ _ _ _;rw [J7 _ _ k hlt];refine ⟨(cR k,dc k,((cP.getD k 0:Nat):Int),()),rfl,ao ?_⟩;refine bm ?_;intro h2 b2 e2 z2;refine ap b2 rfl aj ?_;intro h3 b3 k3 z3;have b3:bf h3 h1.size 158 [.string (cR k),.int .u8 (dc k),.int .i64 ((cP.getD k 0:Nat):Int)]:=b3;have e3:Ext h h3:=e1.trans (Ch.trans e2 k3 (fun i hi hl=>by simp at hi; omega));refine af b3 (cR k,()) rfl (ao ?_);have hn:=xi y7 s.data.toList k h0;have hw:IntKind.wrap .i64 ((k:Int)+1)=((k+1:Nat):Int):=by rw [wrap_i64 ae ae]; omega
  rw [ByteArray.toList_eq,ByteArray.toList_eq,hw];refine ai (fun r=>?_) (fun r=>?_)
  ·have r:y7 k=s.data.toList:=eq_of_beq r;rw [OH r] at hn;have hf:iM s=k+1:=by
    unfold iM;rw [yd _ _ 43 (k+1) ae ae,hn]
   refine ⟨?_,e3⟩;rw [hf]
   simp
  ·have r:¬ y7 k=s.data.toList:=ON r;rw [OG r] at hn;exact aY (cs:=[(false,[.int .i64]),(false,[.bool]),(false,[.int .i64])]) (n130,b131,((k+1:Nat):Int),()) (43-(k+1)) rfl ae rfl ⟨k+1,rfl,ae,rfl,e3,hn⟩
 ·have q:=OF q
  have:k=43:=ae
  subst this;refine ⟨?_,e1⟩;unfold iM;rw [h0]
  simp
end Go.Sx.Ob
namespace Go.Sx
open Go.Proofs
def RQ (h:Hp) (A:Nat) (us ts:List Tok) (d:Int) (e:Nat):Prop:=∃ k,RB h A us k d e/\ts=us.drop k
def RQ.an {ws:List Nat} {h h':Hp} {A:Nat} {us ts:List Tok} {d:Int} {e:Nat} (b:RQ h A us ts d e) (c:Ch ws h h') (hw:∀ i,i∈ws->A<i):RQ h' A us ts d e:=by
 obtain ⟨k,b,ht⟩:=b;exact ⟨k,b.an c hw,ht⟩
def RQ.lt {h:Hp} {A:Nat} {us ts:List Tok} {d:Int} {e:Nat} (b:RQ h A us ts d e):A<h.size:=by
 obtain ⟨k,b,ht⟩:=b;exact b.lt
def Mx (h:Hp) (A:Nat) (us:List Tok) (n:Nat) (d:Int) (res:dT) (v:XB) (h':Hp):Prop :=
 Ch [A] h h'/\∃ x p l c ts' d' e',v=lV p l c x/\SL h' h.size 109 2 p l c (x.ay.map cB)/\Good x/\RQ h' A us ts' d' e'/\BL n d x ts' d' e' res
def LP (f:FuncId) (A:Nat) (us:List Tok) (d:Nat) (g:List Tok->dT):Prop :=
 ∀ h ts,RQ h A us ts d 0->Wf ts->ts.length<=2^40->HC Tryz.prog f #[ptr A] h (Mx h A us ts.length d (g ts))
section rules
variable {L:Lp} {K:XB->Hp->Prop} {h:Hp}
def uD {A:Nat} {us r:List Tok} {t:Tok} {d:Int} {e:Nat} {k:T} (b:RQ h A us (t::r) d e) (hk:∀ h',Ch [A] h h'->RQ h' A us r d e->k L K h') :
  (T.aA (some (⟨A,0,none⟩:XC)) fun (a:XC)=>T.ah (a.add 1) [.int .i64] fun (n:Int)=>T.aA (some (⟨A,0,none⟩:XC)) fun (b:XC)=>T.ak (b.add 1) [.int .i64 (IntKind.wrap .i64 (n+(1:Int)))] k) L K h:=by
 obtain ⟨i,⟨p,l,c,bA,v,hp,hi,hu⟩,ht⟩:=b;have hil:i<us.length:=by
  rcases Po i us.length with h | h
  ·exact h
  ·rw [OW h] at ht; cases ht
 refine au rfl ?_;rw [az];refine af bA ((i:Int),()) rfl (ao ?_);refine au rfl ?_;rw [az];refine ap bA rfl aj ?_;intro h1 b1 k1 z1;have b1:bf h1 A 292 [.slice p l c,.int .i64 (IntKind.wrap .i64 ((i:Int)+1)),.int .i64 d,.int .i64 (e:Int)]:=b1;rw [show IntKind.wrap .i64 ((i:Int)+1)=((i+1:Nat):Int) by rw [wrap_i64 ae ae]; omega] at b1;refine hk h1 k1 ⟨i+1,⟨p,l,c,b1,v.an k1 (fun j hj hm=>?_),hp,ae,hu⟩,?_⟩
 ·rw [OJ] at hm
  have:=hp _ hj
  omega
 ·have:=O7 (List.drop 1) ht
  rw [P2] at this;simpa using this
def Dc {A:Nat} {us ts:List Tok} {d:Int} {e:Nat} {f:Int->Int} {k:T} (b:RQ h A us ts d e) (hk:∀ h',Ch [A] h h'->RQ h' A us ts (f d) e->k L K h') :
  (T.aA (some (⟨A,0,none⟩:XC)) fun (a:XC)=>T.ah (a.add 2) [.int .i64] fun (n:Int)=>T.aA (some (⟨A,0,none⟩:XC)) fun (b:XC)=>T.ak (b.add 2) [.int .i64 (f n)] k) L K h:=by
 obtain ⟨i,⟨p,l,c,bA,v,hp,hi,hu⟩,ht⟩:=b;refine au rfl ?_;rw [az];refine af bA (d,()) rfl (ao ?_);refine au rfl ?_;rw [az];refine ap bA rfl aj ?_;intro h1 b1 k1 z1;have b1:bf h1 A 292 [.slice p l c,.int .i64 (i:Int),.int .i64 (f d),.int .i64 (e:Int)]:=b1;refine hk h1 k1 ⟨i,⟨p,l,c,b1,v.an k1 (fun j hj hm=>?_),hp,hi,hu⟩,ht⟩;rw [OJ] at hm
 have:=hp _ hj
 omega
def iV {A:Nat} {us ts:List Tok} {d:Int} {e w:Nat} {k:T} (b:RQ h A us ts d e) (hk:∀ h',Ch [A] h h'->RQ h' A us ts d (if e=0 then w else e)->k L K h') :
  T.call Tryz.prog 182 [.pointer (some ⟨A,0,none⟩),.int .i64 (w:Int)] true [] k L K h:=by
 obtain ⟨i,b,ht⟩:=b;refine aK (CX b w) ?_;rintro _ h1 ⟨rfl,k1,z1,b1⟩;exact ⟨(),rfl,hk h1 k1 ⟨i,b1,ht⟩⟩
def uY {A:Nat} {us ts:List Tok} {d:Int} {e:Nat} {c:UInt8} {k:Bool->T} (b:RQ h A us ts d e) (hk:k (cV e ts c) L K h):T.call Tryz.prog 195 [.pointer (some ⟨A,0,none⟩),.string ⟨#[c]⟩] false [(false,[.bool])] k L K h:=by
 obtain ⟨i,b,ht⟩:=b;subst ht;exact aM (Kb b c) hk
def gZ {h hx:Hp} {A:Nat} {us ts':List Tok} {n:Nat} {d d':Int} {res:dT} {g1 g4 b:Nat} {x:fG} {p:Option XC} {l c e':Nat} {L:Lp} (kx:Ch [A] h hx) (hg1:h.size<=g1) (hAg:A<g1) (b1:bf hx g1 94 [.slice none 0 0,.int .u32 0]) (b4:bf hx g4 94 [.slice p l c,.int .u32 (x.num:Int)])
  (s:SL hx b 109 2 p l c (x.ay.map cB)) (hb:g1<b) (gx:Good x) (rq:RQ hx A us ts' d' e') (post:BL n d x ts' d' e' res) :
  (T.ah ⟨g4,0,none⟩ [.slice 109,.int .u32] fun (p:Option XC) (l c:Nat) (n:Int)=>T.ak ⟨g1,0,none⟩ [.slice p l c,.int .u32 n] <| T.ah ⟨g1,0,none⟩ [.slice 109,.int .u32] fun (p:Option XC) (l c:Nat) (n:Int)=>T.ret (.agg #[.slice p l c,.int .u32 n])) L (Mx h A us n d res) hx:=by
 refine af b4 ((p,l,c),(x.num:Int),()) rfl (ao ?_);refine ap b1 rfl aj ?_;intro h7 b7 k7 z7;have b7:bf h7 g1 94 [.slice p l c,.int .u32 (x.num:Int)]:=b7;refine af b7 ((p,l,c),(x.num:Int),()) rfl ?_;exact ⟨Ch.trans kx k7 (fun j hj hl=>by simp at hj; omega),x,p,l,c,ts',d',e',rfl,(s.bd k7 (fun j hj=>by have:=(s.bH hj).1; simp; omega)).mono ae,gx,rq.an k7 (by simp; omega),post⟩
def KB {k:Option XC->Nat->Nat->T} {s:XA} {n:Nat} {v:Int} (hv:v=(n:Int)) (hk:∀ h' p' l' c',SL h' h.size 109 2 p' l' c' ([(s,n)].map cB)->Ext h h'->h'.size=h.size+1->k p' l' c' L K h') :
  T.fb Tryz.prog (Instr.buildSlice 91 1 #[(0,.agg #[.string s,.int .u32 v])]) false [(false,[.slice 0])] k L K h:=by
 subst hv;refine eM (cells:=[.string s,.int .u32 n]) xj xI bO bO aB ?_;intro h2 b2 e2 z2;exact hk h2 _ _ _ ⟨rfl,by simp [cB],h.size,[],[],rfl,ae,ae,b2,rfl⟩ e2 z2
end rules
def E9 {t:Tok}:(decide (t.kind=3) && (ByteArray.toList t.text==[({ toBitVec:=40#8 }:UInt8)]))=eE t 40:=by
 unfold eE;rw [ByteArray.toList_eq]
 by_cases h:t.kind=3
 ·simp [h]
 ·simp [h]
def Oa (h:Hp) (A g1 g4:Nat) (us:List Tok) (d:Int) (res:dT) (h':Hp):Prop :=
 Ch [A] h h'/\bf h' g1 94 [.slice none 0 0,.int .u32 0]/\∃ x p l c t r,bf h' g4 94 [.slice p l c,.int .u32 (x.num:Int)]/\SL h' (g1+1) 109 2 p l c (x.ay.map cB)/\Good x/\RQ h' A us (t::r) d 0/\res=.ok (x,r)
def zS {A : Nat} {us : List Tok} {o : Option (List Tok -> dT)} {d : Nat} (hz : ∀ t, t ∈ us -> t.text.size <= 9223372036854775807) (hd : d <= 32)
    (ho : match o with
      | none => d = 32
      | some f => d < 32 /\ LP 181 A us (d + 1) f)
    (hfine : ∀ f, o = some f -> ∀ ts, Wf ts -> jj ts (f ts)) : LP 203 A us d (xX o) := by
  intro h ts rq w hts;refine ba (args := [ptr A]) mixed Tryz.func203 aB (ig (some ⟨A, 0, none⟩)) ?_;unfold eU cv bN bW aN aS aR aH av aJ aI bh bZ;have hA := rq.lt;refine bm ?_;intro h1 b1 e1 z1
  refine bJ (cs := [(false, [.bool])]) (fun y m h' => ∃ (b : Bool) (vs : List Tok), y.1 = b /\ xX o ts = yr o b vs /\ Ch [A] h1 h' /\ RQ h' A us vs d 0 /\ vs <:+ ts /\ m = vs.length) (false, ()) ts.length rfl
    ⟨false, ts, rfl, rfl, Ch.refl _ _, rq.an e1 aj, PF _, rfl⟩ ?_
  rintro ⟨b, ⟨⟩⟩ m h2 ⟨b', vs, hb', hg, k2, rq2, hsuf, rfl⟩;simp only at hb';subst hb';refine ao ?_;have hz2 := k2.size;have b12 := b1.an k2 (by simp; omega);have k02 : Ch [A] h h2 := Ch.trans (e1.mono aj) k2 (fun j hj _ => hj);have hus := hsuf.length_le;have wus := w.suffix hsuf;refine uY rq2 ?_;refine ai (fun g1 => ?_) (fun g1 => ?_)
  · cases vs with
    | nil => cases g1
    | cons t r =>
      have g1 : eE t 45 = true := g1;refine uD rq2 ?_;intro h3 k3 rq3;refine aY (cs := [(false, [.bool])]) (!b, ()) r.length rfl aj rfl ⟨!b, r, rfl, ?_, Ch.trans k2 k3 (fun j hj _ => hj), rq3, (Pc _ _).trans hsuf, rfl⟩;rw [hg];show (if eE t 45 = true then yr o (!b) r else sD o b (t :: r)) = _;rw [OH g1]
  · have hfs : xX o ts = sD o b vs := by
      rw [hg];cases vs with
      | nil => rfl
      | cons t r =>
        have g1 : eE t 45 = false := g1;show (if eE t 45 = true then yr o (!b) r else sD o b (t :: r)) = _;rw [OG (by rw [g1]; simp)]
    refine bm ?_;intro h3 b4 e3 z3;have b13 := b12.an e3 aj;have rq3 := rq2.an e3 aj;have k03 : Ch [A] h h3 := Ch.trans k02 e3 aj;have hz03 := k03.size;refine bG (cs := [(false, [.bool])]) (fun y h' => y.1 = decide (vs = []) /\ h3 = h') ?_ ?_
    · obtain ⟨i, ⟨p, l, c, bA, v, hp, hi, hu⟩, ht⟩ := rq3
      refine au rfl ?_;rw [az];refine af bA ((0 : Int), ()) rfl (ao ?_);refine aW rfl ?_;refine au rfl ?_;rw [az];refine af bA ((i : Int), ()) rfl (ao ?_);refine au rfl ?_;refine af bA ((p, l, c), ()) rfl (ao ?_);refine aO (cs := [(false, [.bool])]) (decide ((i : Int) >= (l : Int)), ()) rfl rfl ⟨?_, rfl⟩;have hlen := v.len;have : vs = [] ↔ us.length <= i := by rw [ht]; exact PI
      show decide ((i : Int) >= (l : Int)) = decide (vs = [])
      by_cases hv : vs = []
      · rw [OK hv, OK (by have := this.1 hv; omega)]
      · rw [OL hv, OL (by intro hh; exact hv (this.2 ae))]
    · rintro ⟨b5, ⟨⟩⟩ h3' ⟨hb5, rfl⟩
      simp only at hb5;subst hb5;refine ao ?_;refine ai (fun g2 => ?_) (fun g2 => ?_)
      · have g2 : vs = [] := OE g2
        subst g2;refine iV (w := 20) rq3 ?_;intro h4 k4 rq4;rw [hfs];refine gZ (b := h.size + 1) (x := qj) (Ch.trans k03 k4 (fun j hj _ => hj)) (OP _) hA (b13.an k4 (by simp; omega)) (b4.an k4 (by simp; omega)) (SL.nil _ _ _ _) ae Good.z rq4 ?_;exact ⟨rfl, aj, by simp [qj]⟩
      · have g2 : vs ≠ [] := OF g2
        obtain ⟨t, r, rfl⟩ := List.exists_cons_of_ne_nil g2;have wt := wus t (Pe ..);simp only [List.length_cons] at hus
        have fH : ∀ q, (if t.kind = 1 then if (fJ t.text.data.toList).2.2 = true then (.error 20 : dT) else .ok (⟨[(t.text, 1)], 0⟩, r)
            else if t.kind = 2 then .ok (⟨[], t.num⟩, r)
            else if eE t 40 = true then match o with
              | none => .error 21
              | some f => match f r with
                | .error e => .error e
                | .ok (x, r') => match r' with
                  | [] => .error 20
                  | t' :: r'' => if eE t' 41 = true then .ok (x, r'') else .error 20
            else .error 20) = q -> rj o (t :: r) = q := fun q hq => hq
        have hfe : ∀ e, rj o (t :: r) = .error e -> sD o b (t :: r) = .error e := fun e he => by unfold sD; rw [he]
        have rq3' := rq3;obtain ⟨i, ⟨p, l, c, bA, v, hp, hi, hu⟩, ht⟩ := rq3
        have hil : i < us.length := by
          rcases Po i us.length with h | h
          · exact h
          · rw [OW h] at ht; cases ht
        have hlen := v.len
        have htu : us[i] = t := by
          rw [OM hil] at ht;exact (List.cons.inj ht).1.symm
        obtain ⟨a, rfl, hc⟩ := v.cells i hil;rw [htu] at hc;refine au rfl (af bA ((some a, l, c), ()) rfl (ao ?_));refine au rfl ?_;rw [az];refine af bA ((i : Int), ()) rfl (ao ?_);refine aC ⟨ae, ae⟩ (au rfl ?_);rw [show Int.toNat (i : Int) = i from ae];refine aG ((t.kind : Int), t.text, (t.num : Int), (t.at_ : Int), ()) hc (ao ?_);refine bm ?_;intro h5 b5 e5 z5;have hblk : a.block < A := hp _ (by simp [aE]);have bA5 := bA.an e5 aj;refine ⟨⟨bF e5 aj _ _ hc, bA5.cells _ rfl, bA5.cells _ rfl, trivial⟩, ?_⟩;refine ap b5 rfl aj ?_;intro h6 bt6 k6 z6;have bt6 : bf h6 h3.size 236 (enc t) := bt6;have e36 : Ext h3 h6 := Ch.trans e5 k6 (fun j hj hl => by simp at hj; omega);have k06 : Ch [A] h h6 := Ch.trans k03 e36 aj;have b16 := b13.an e36 aj;have b46 := b4.an e36 aj;have rq6 := rq3'.an e36 aj;have hb4 := b4.lt;have hz23 := k02.size;refine bG (cs := []) (fun y h' => Oa h A h.size h2.size us d (rj o (t :: r)) h') ?_ ?_
        · refine af bt6 ((t.kind : Int), ()) rfl (ao ?_);refine ai (fun g5 => ?_) (fun g5 => ?_)
          · have g5 : t.kind = 2 := by have : (t.kind : Int) = 2 := by simpa using g5
                                       omega
            rw [az];refine af bt6 ((t.num : Int), ()) rfl (ao ?_);rw [az];refine ap b46 rfl aj ?_;intro h7 b7 k7 z7;have b7 : bf h7 h2.size 94 [.slice none 0 0, .int .u32 (t.num : Int)] := b7;exact aO (cs := []) () rfl rfl ⟨Ch.trans k06 k7 (fun j hj hl => by simp at hj; omega), b16.an k7 (by simp; omega), ⟨[], t.num⟩, none, 0, 0, t, r, b7, SL.nil _ _ _ _, ⟨Nf.nil, aj, wt.num⟩, rq6.an k7 (by simp; omega), fH _ (by rw [OG ae, OH g5])⟩
          · have g5 : ¬ t.kind = 2 := by have : ¬ (t.kind : Int) = 2 := by simpa using g5
                                         omega
            refine bG (cs := [(false, [.bool])]) (fun y h' => y.1 = (decide (t.kind = 1) && bI t.text.data.toList) /\ h6 = h') ?_ ?_
            · refine af bt6 ((t.kind : Int), ()) rfl (ao ?_);refine ai (fun g3 => ?_) (fun g3 => ?_)
              · have g3 : t.kind = 1 := by have : (t.kind : Int) = 1 := by simpa using g3
                                           omega
                rw [az];refine af bt6 (t.text, ()) rfl (ao ?_);refine aM (ve t.text h6 (hz t (by rw [<- htu]; exact O2 hil))) ?_;refine aO (cs := [(false, [.bool])]) (bI t.text.data.toList, ()) rfl rfl ⟨?_, rfl⟩;rw [OK g3] <;> rfl
              · have g3 : ¬ t.kind = 1 := by have : ¬ (t.kind : Int) = 1 := by simpa using g3
                                             omega
                refine aO (cs := [(false, [.bool])]) (false, ()) rfl rfl ⟨?_, rfl⟩;rw [OL g3] <;> rfl
            · rintro ⟨b7, ⟨⟩⟩ h6' ⟨hb7, rfl⟩
              simp only at hb7;subst hb7;refine ao ?_;refine ai (fun g3 => ?_) (fun g3 => ?_)
              · simp only [Bool.and_eq_true, decide_eq_true_eq] at g3
                obtain ⟨hn0, hlg⟩ := wt.name g3.1;have hreg : (fJ t.text.data.toList).2.2 = false := by rw [g3.2] at hlg; simpa using hlg.symm
                rw [az];refine af bt6 (t.text, ()) rfl (ao ?_);refine KB (n := 1) rfl ?_;intro h7 p' l' c' s7 e7 z7;refine ap (b46.an e7 aj) rfl aj ?_;intro h8 b8 k8 z8;have b8 : bf h8 h2.size 94 [.slice p' l' c', .int .u32 0] := b8;have hz6 := e36.size;have k68 : Ch [h2.size] h6 h8 := Ch.trans (e7.mono aj) k8 (fun j hj _ => hj);refine aO (cs := []) () rfl rfl ⟨Ch.trans k06 k68 (fun j hj hl => by simp at hj; omega), b16.an k68 (by simp; omega), ⟨[(t.text, 1)], 0⟩, p', l', c', t, r, b8, ?_, sC g3.2, rq6.an k68 (by simp; omega), fH _ (by rw [OH g3.1, OG (by rw [hreg]; simp)])⟩;exact (s7.bd k8 (fun j hj => by have := (s7.bH hj).1; simp; omega)).mono ae
              · simp only [Bool.and_eq_false_iff, decide_eq_false_iff_not] at g3
                refine bG (cs := [(false, [.bool])]) (fun y h' => y.1 = eE t 40 /\ h6 = h') ?_ ?_
                · refine af bt6 ((t.kind : Int), ()) rfl (ao ?_);refine ai (fun g6 => ?_) (fun g6 => ?_)
                  · have g6 : t.kind = 3 := by have : (t.kind : Int) = 3 := by simpa using g6
                                               omega
                    rw [az];refine af bt6 (t.text, ()) rfl (ao ?_);refine aO (cs := [(false, [.bool])]) ((ByteArray.toList t.text == [({ toBitVec := 40#8 } : UInt8)]), ()) rfl rfl ⟨?_, rfl⟩;rw [<- E9, OK g6] <;> rfl
                  · have g6 : ¬ t.kind = 3 := by have : ¬ (t.kind : Int) = 3 := by simpa using g6
                                                 omega
                    refine aO (cs := [(false, [.bool])]) (false, ()) rfl rfl ⟨?_, rfl⟩;rw [<- E9, OL g6] <;> rfl
                · rintro ⟨b8, ⟨⟩⟩ h6' ⟨hb8, rfl⟩
                  simp only at hb8;subst hb8;refine ao ?_;have hz6 := e36.size;refine ai (fun g6 => ?_) (fun g6 => ?_)
                  · have hk3 := H2 g6
                    have hk1 : ¬ t.kind = 1 :=ae
                    obtain ⟨i6, ⟨p6, l6, c6, bA6, v6, hp6, hi6, hu6⟩, ht6⟩ := rq6;have rq6 : RQ h6 A us (t :: r) d 0 := ⟨i6, ⟨p6, l6, c6, bA6, v6, hp6, hi6, hu6⟩, ht6⟩
                    refine au rfl ?_;rw [az];refine af bA6 ((d : Int), ()) rfl (ao ?_);refine ai (fun g7 => ?_) (fun g7 => ?_)
                    · have g7 : (d : Int) = 32 := by simpa using g7
                      refine iV (w := 21) rq6 ?_;intro h7 k7 rq7;cases o with
                      | some f => simp only at ho; omega
                      | none =>
                        rw [hfs];refine gZ (b := h.size + 1) (x := qj) (Ch.trans k06 k7 (fun j hj _ => hj)) (OP _) hA (b16.an k7 (by simp; omega)) (b46.an k7 (by simp; omega)) (SL.nil _ _ _ _) ae Good.z rq7 ?_;rw [hfe 21 (fH _ (by rw [OG hk1, OG g5, OH g6]))];exact ⟨rfl, aj, by simp [qj]⟩
                    · have g7 : ¬ (d : Int) = 32 := by simpa using g7
                      cases o with
                      | none => simp only at ho; omega
                      | some f =>
                        simp only at ho;obtain ⟨hd', hs⟩ := ho;refine Dc (f := fun n => IntKind.wrap .i64 (n + 1)) rq6 ?_;intro h7 k7 rq7;rw [wrap_small ae ae] at rq7;refine uD rq7 ?_;intro h8 k8 rq8;have k68 : Ch [A] h6 h8 := Ch.trans k7 k8 (fun j hj _ => hj);have k08 : Ch [A] h h8 := Ch.trans k06 k68 (fun j hj _ => hj);have b18 := b16.an k68 (by simp; omega);have b48 := b46.an k68 (by simp; omega);have wr : Wf r := wus.tail;have hff := hfine f rfl r wr;have hrl : r.length + 1 <= ts.length := hus;refine aK (hs h8 r rq8 wr ae) ?_;rintro _ h9 ⟨k9, x, p', l', c', ts', d', e', rfl, s9, gx, rq9, post⟩;refine ⟨((p', l', c'), (x.num : Int), ()), rfl, ao ?_⟩;have b19 := b18.an k9 (by simp; omega);have hz8 := k08.size;have hz68 := k68.size;refine ap (b48.an k9 (by simp; omega)) rfl aj ?_;intro h10 b10 k10 z10;have b10 : bf h10 h2.size 94 [.slice p' l' c', .int .u32 (x.num : Int)] := b10;have b110 := b19.an k10 (by simp; omega);have rq10 := rq9.an k10 (by simp; omega);have s10 : SL h10 (h.size + 1) 109 2 p' l' c' (x.ay.map cB) := (s9.bd k10 (fun j hj => by have := (s9.bH hj).1; simp; omega)).mono ae;have k010 : Ch [A] h h10 := Ch.trans (Ch.trans k08 k9 (fun j hj _ => hj)) k10 (fun j hj hl => by simp at hj; omega);refine Dc (f := fun n => IntKind.wrap .i64 (n - 1)) rq10 ?_;intro h11 k11 rq11;have b111 := b110.an k11 (by simp; omega);have b11 := b10.an k11 (by simp; omega);have s11 := s10.bd k11 (fun j hj => by have := (s10.bH hj).1; simp; omega);have k011 : Ch [A] h h11 := Ch.trans k010 k11 (fun j hj _ => hj);refine uY rq11 ?_;refine ai (fun g8 => ?_) (fun g8 => ?_)
                        · have g8 : cV e' ts' 41 = false := by simpa using g8
                          refine iV (w := 20) rq11 ?_;intro h12 k12 rq12;rw [hfs];revert post hff;cases hfr : f r with
                          | error e =>
                            rintro hff ⟨rfl, he0, hxl⟩;refine gZ (Ch.trans k011 k12 (fun j hj _ => hj)) (OP _) hA (b111.an k12 (by simp; omega)) (b11.an k12 (by simp; omega)) (s11.bd k12 (fun j hj => by have := (s11.bH hj).1; simp; omega)) ae gx rq12 ?_;rw [hfe e' (fH _ (by rw [OG hk1, OG g5, OH g6]; simp only [hfr]))];exact ⟨by rw [OG he0], he0, ae⟩
                          | ok z =>
                            obtain ⟨y, r'⟩ := z;rintro ⟨_, _, _, hxl⟩ ⟨rfl, rfl, rfl, rfl⟩;refine gZ (Ch.trans k011 k12 (fun j hj _ => hj)) (OP _) hA (b111.an k12 (by simp; omega)) (b11.an k12 (by simp; omega)) (s11.bd k12 (fun j hj => by have := (s11.bH hj).1; simp; omega)) ae gx rq12 ?_;rw [hfe 20 (fH _ ?_)]
                            · exact ⟨rfl, ae, ae⟩
                            · rw [OG hk1, OG g5, OH g6]
                              simp only [hfr];cases ts' with
                              | nil => rfl
                              | cons t' r'' =>
                                have g8 : eE t' 41 = false := g8;simp only;rw [OG (by rw [g8]; simp)]
                        · have g8 : cV e' ts' 41 = true := by simpa using g8
                          have he0 : e' = 0 := by
                            unfold cV at g8;simp only [Bool.and_eq_true, decide_eq_true_eq] at g8;exact g8.1
                          revert post hff;cases hfr : f r with
                          | error e =>
                            rintro hff ⟨rfl, he, hxl⟩;exact absurd he0 he
                          | ok z =>
                            obtain ⟨y, r'⟩ := z;rintro ⟨_, _, _, hxl⟩ ⟨_, rfl, rfl, rfl⟩;subst he0;cases ts' with
                            | nil => cases g8
                            | cons t' r'' =>
                              have g8 : eE t' 41 = true := g8;refine aO (cs := []) () rfl rfl ⟨k011, b111, x, p', l', c', t', r'', b11, s11, gx, ?_, fH (.ok (x, r'')) (by rw [OG hk1, OG g5, OH g6]; simp only [hfr]; rw [OH g8])⟩;have : IntKind.wrap .i64 (((d + 1 : Nat) : Int) - 1) = (d : Int) := by rw [wrap_small ae ae]; omega
                              rw [<- this];exact rq11
                  · have hE : rj o (t :: r) = .error 20 := by
                      refine fH _ ?_
                      by_cases hk1 : t.kind = 1
                      · rw [OH hk1]
                        obtain ⟨hn0, hlg⟩ := wt.name hk1
                        have hl : bI t.text.data.toList = false := by
                          rcases g3 with g3 | g3
                          · exact absurd hk1 g3
                          · exact g3
                        rw [hl] at hlg;rw [OH (by simpa using hlg.symm)]
                      · rw [OG hk1, OG g5, OG (by rw [g6]; simp)]
                    refine iV (w := 20) rq6 ?_;intro h7 k7 rq7;rw [hfs];refine gZ (b := h.size + 1) (x := qj) (Ch.trans k06 k7 (fun j hj _ => hj)) (OP _) hA (b16.an k7 (by simp; omega)) (b46.an k7 (by simp; omega)) (SL.nil _ _ _ _) ae Good.z rq7 ?_;rw [hfe 20 hE];exact ⟨rfl, aj, by simp [qj]⟩
        · rintro ⟨⟩ h7 ⟨k7, b17, x, p', l', c', t', r'', b47, s7, gx, rq7, hres⟩
          refine ao ?_;have hfx : sD o b (t :: r) = .ok (yY b x, r'') := by unfold sD; rw [hres]
          have hxl : x.ay.length <= ts.length := by
            have hf := vh hfine wus;rw [hres] at hf;obtain ⟨_, _, _, hl⟩ := hf;simp only [List.length_cons] at hl;omega
          refine uD rq7 ?_;intro h8 k8 rq8;have k08 : Ch [A] h h8 := Ch.trans k7 k8 (fun j hj _ => hj);have hz8 := k08.size;have b18 := b17.an k8 (by simp; omega);have b48 := b47.an k8 (by simp; omega);have s8 := s7.bd k8 (fun j hj => by have := (s7.bH hj).1; simp; omega);rw [hfs, hfx];refine ai (fun g9 => ?_) (fun g9 => ?_)
          · refine af b48 ((p', l', c'), (x.num : Int), ()) rfl (ao ?_);refine aK (ov s8.Dl ae s8.zb 4294967295) ?_;rintro _ h9 ⟨e9, q, m, cq, rfl, s9⟩;refine ⟨((q, m, cq), ((eI x 4294967295).num : Int), ()), rfl, ao ?_⟩;have hb48 := b48.lt;refine ap (b48.an e9 aj) rfl aj ?_;intro h10 b10 k10 z10;have b10 : bf h10 h2.size 94 [.slice q m cq, .int .u32 ((eI x 4294967295).num : Int)] := b10;have k810 : Ch [h2.size] h8 h10 := Ch.trans (e9.mono aj) k10 (fun j hj _ => hj);refine gZ (x := eI x 4294967295) (Ch.trans k08 k810 (fun j hj hl => by simp at hj; omega)) (OP _) hA (b18.an k810 (by simp; omega)) b10 (s9.bd k10 (fun j hj => by have := (s9.bH hj).1; simp; omega)) ae (gx.T _) (rq8.an k810 (by simp; omega)) ?_;exact ⟨rfl, by unfold yY; rw [OH g9], rfl, rfl⟩
          · refine gZ k08 (OP _) hA b18 b48 s8 ae gx rq8 ?_
            exact ⟨rfl, by unfold yY; rw [OG (by rw [g9]; simp)], rfl, rfl⟩
def Om (a b:XA):Op.bytesLess (ByteArray.toList a) (ByteArray.toList b)=decide (fQ a b):=by
 rw [ByteArray.toList_eq,ByteArray.toList_eq,Proofs.bytesLess_eq] <;> rfl
def Lv (h:Hp) (g7:Nat) (x y:ec) (N:Int) (i j:Nat) (h':Hp):Prop :=
 i<=x.length/\j<=y.length/\Ch [g7] h h'/\∃ O p l c f,bf h' g7 94 [.slice p l c,.int .u32 N]/\SL h' h.size 109 2 p l c (O.map cB)/\Cc x y=O++ek f (x.drop i) (y.drop j)/\(x.length-i)+(y.length-j)<=f/\O.length<=i+j
def GY (f:Nat):ek f [] []=[]:=by cases f <;> rfl
def Lf {f:Nat} {p:XA × Nat} {x y:ec} (h:y=[]\/∃ q r,y=q::r/\fQ p.1 q.1):ek (f+1) (p::x) y=p::ek f x y:=by
 rcases h with rfl | ⟨q,r,rfl,h⟩
 ·rfl
 ·show (if fQ p.1 q.1 then _ else _)=_;rw [OH h]
def Lr {f:Nat} {q:XA × Nat} {x y:ec} (h:x=[]\/∃ p r,x=p::r/\fQ q.1 p.1):ek (f+1) x (q::y)=q::ek f x y:=by
 rcases h with rfl | ⟨p,r,rfl,h⟩
 ·rfl
 ·show (if fQ p.1 q.1 then _ else if fQ q.1 p.1 then _ else _)=_;rw [OG (qS h),OH h]
def Jq {f:Nat} {p q:XA × Nat} {x y:ec} (h1:¬ fQ p.1 q.1) (h2:¬ fQ q.1 p.1):ek (f+1) (p::x) (q::y)=if (p.2+q.2) % 4294967296=0 then ek f x y else (p.1,(p.2+q.2) % 4294967296)::ek f x y:=by
 show (if fQ p.1 q.1 then _ else if fQ q.1 p.1 then _ else _)=_;rw [OG h1,OG h2]
def Nr:ec->ec->Bool
 | [],_=>false
 | _::_,[]=>true
 | p::_,q::_=>decide (fQ p.1 q.1)
def Cb {x y:ec} (h:Nr x y=true):∃ p r,x=p::r/\(y=[]\/∃ q s,y=q::s/\fQ p.1 q.1):=by
 cases x with
 | nil=>cases h
 | cons p r =>
  cases y with
  | nil=>exact ⟨p,r,rfl,.inl rfl⟩
  | cons q s=>exact ⟨p,r,rfl,.inr ⟨q,s,rfl,OE h⟩⟩
def AD {x y:ec} (h:Nr x y=false):x=[]\/∃ p r q s,x=p::r/\y=q::s/\¬ fQ p.1 q.1:=by
 cases x with
 | nil=>exact .inl rfl
 | cons p r =>
  cases y with
  | nil=>cases h
  | cons q s=>exact .inr ⟨p,r,q,s,rfl,rfl,OF h⟩
def wS {α:Type} {l r:List α} {p:α} {i:Nat} (h:l.drop i=p::r):i<l.length:=by
 rcases Po i l.length with h1 | h1
 ·exact h1
 ·rw [OW h1] at h; cases h
def Hz {h:Hp} {p q:Option XC} {l c m d:Nat} {x y:fG} (v:tp h p l x.ay) (u:tp h q m y.ay) (hp:∀ i,i∈aE p->i<h.size) (hq:∀ i,i∈aE q->i<h.size)
  (hl:x.ay.length+y.ay.length<=2^40) :
  HC Tryz.prog 197 #[lV p l c x,lV q m d y] h fun w h'=>Ext h h'/\∃ p' l' c',w=lV p' l' c' (fO x y)/\SL h' h.size 109 2 p' l' c' ((fO x y).ay.map cB):=by
 refine ba (args:=[.agg #[.slice p l c,.int .u32 x.num],.agg #[.slice q m d,.int .u32 y.num]]) mixed Tryz.func197 aB (pv p l c x.num q m d y.num) ?_;unfold kQ cv bN dH bW aR av aI aQ bZ;have hll:=v.len;have hmm:=u.len;refine bm ?_;intro h1 b1 e1 z1;refine bm ?_;intro h2 b2 e2 z2;refine bm ?_;intro h3 b3 e3 z3;have b1:=(b1.an e2 aj).an e3 aj;have b2:=b2.an e3 aj;rw [az,az];refine af b1 ((x.num:Int),()) rfl (ao ?_);refine af b2 ((y.num:Int),()) rfl (ao ?_);refine bm ?_;intro h4 b4 e4 z4;refine ap b4 rfl aj ?_;intro h5 b5 k5 z5;rw [EQ] at b5;have b5:bf h5 h3.size 94 [.slice none 0 0,.int .u32 (((x.num+y.num) % 4294967296:Nat):Int)]:=b5;have e35:Ext h3 h5:=Ch.trans e4 k5 (fun j hj hl=>by simp at hj; omega);have b1:=b1.an e35 aj;have b2:=b2.an e35 aj;have b3:=b3.an e35 aj;have e05:=((e1.trans e2).trans e3).trans e35;have hz5:=e05.size;refine bJ (cs:=[(false,[.int .i64]),(false,[.int .i64])]) (fun z w h'=>∃ i j:Nat,z.1=(i:Int)/\z.2.1=(j:Int)/\w=(x.ay.length-i)+(y.ay.length-j)/\Lv h5 h3.size x.ay y.ay (((x.num+y.num) % 4294967296:Nat):Int) i j h')
  ((0:Int),(0:Int),()) (x.ay.length+y.ay.length) rfl ⟨0,0,rfl,rfl,rfl,P9 _,P9 _,Ch.refl _ _,[],none,0,0,x.ay.length+y.ay.length,b5,SL.nil _ _ _ _,rfl,ae,aj⟩ ?_
 rintro ⟨n1,n2,⟨⟩⟩ w h6 ⟨i,j,hi,hj,rfl,hil,hjl,k6,O,po,lo,co,f,b6,s6,hO,hf,hOl⟩;simp only at hi hj;subst hi hj;refine ao ?_;have hb5:=b5.lt;have hz6:=k6.size;have b1:=b1.an k6 (by simp; omega);have b2:=b2.an k6 (by simp; omega);have b3:=b3.an k6 (by simp; omega);have e06:Ext h h6:=Ch.trans e05 k6 (fun j hj hl=>by simp at hj; omega);have v6:=v.an e06 aj;have u6:=u.an e06 aj;have hlo:lo=O.length:=by rw [s6.1,OI]
 have hwi:IntKind.wrap .i64 ((i:Int)+1)=((i+1:Nat):Int):=by rw [wrap_i64 ae ae]; omega
 have hwj:IntKind.wrap .i64 ((j:Int)+1)=((j+1:Nat):Int):=by rw [wrap_i64 ae ae]; omega
 have hsb:∀ i,i∈aE po->h5.size<=i:=fun i hi=>(s6.bH hi).1
 have hpm:∀ (k:Nat) (a:XC) (w:ec) (vs:List XB),(some a=p\/some a=q)->bk h6 (a.add (k*2)) 0 vs->∀ h',Ch (aE po) h6 h'->bk h' (a.add (k*2)) 0 vs:=fun k a w vs ha hc h' kk=>bF kk (by
  rw [fh];intro hm;have h1:=hsb _ hm;rcases ha with ha | ha
  ·have:=hp a.block (by rw [<- ha]; simp [aE]); omega
  ·have:=hq a.block (by rw [<- ha]; simp [aE]); omega) _ _ hc
 have push:∀ (t:XA × Nat) (i' j':Nat) (h7:Hp) (p7:Option XC) (c7:Nat),i'<=x.ay.length->j'<=y.ay.length->i+j+1<=i'+j'->ek f (x.ay.drop i) (y.ay.drop j)=t::ek (f-1) (x.ay.drop i') (y.ay.drop j')->(x.ay.length-i')+(y.ay.length-j')<=f-1 ->
   SL h7 h5.size 109 2 p7 (lo+1) c7 (O.map cB++[cB t])->Ch (aE po) h6 h7->∀ h8,bf h8 h3.size 94 [.slice p7 (lo+1) c7,.int .u32 (((x.num+y.num) % 4294967296:Nat):Int)]->Ch [h3.size] h7 h8->Lv h5 h3.size x.ay y.ay (((x.num+y.num) % 4294967296:Nat):Int) i' j' h8:=by
  intro t i' j' h7 p7 c7 hi' hj' hij hF hf' s7 k7 h8 b8 k8;refine ⟨hi',hj',Ch.trans (Ch.trans k6 k7 (fun j hj hl=>by have:=hsb j hj; omega)) k8 (fun j hj _=>hj),O++[t],p7,lo+1,c7,f-1,b8,?_,?_,hf',by simp; omega⟩
  ·rw [OU];exact s7.bd k8 (fun j hj=>by have:=(s7.bH hj).1; simp; omega)
  ·rw [hO,hF]; simp
 refine bG (cs:=[(false,[.bool])]) (fun z h'=>z.1=(decide (i<x.ay.length) || decide (j<y.ay.length))/\h6=h') ?_ ?_
 ·refine af b1 ((p,l,c),()) rfl (ao ?_);refine ai (fun g1=>?_) (fun g1=>?_)
  ·have g1:=OE g1;refine aO (cs:=[(false,[.bool])]) (true,()) rfl rfl ⟨?_,rfl⟩;rw [OK (show i<x.ay.length from ae)] <;> rfl
  ·have g1:=OF g1;refine af b2 ((q,m,d),()) rfl (ao ?_);refine aO (cs:=[(false,[.bool])]) (decide ((j:Int)<(m:Int)),()) rfl rfl ⟨?_,rfl⟩;rw [OL (show ¬ i<x.ay.length from ae),P7];show decide ((j:Int)<(m:Int))=decide (j<y.ay.length);rw [decide_eq_decide];omega
 rintro ⟨b10,⟨⟩⟩ h6' ⟨hb10,rfl⟩;simp only at hb10;subst hb10;refine ao ?_;refine ai (fun g1=>?_) (fun g1=>?_)
 ·simp only [Bool.or_eq_true,decide_eq_true_eq] at g1;obtain ⟨f',rfl⟩:∃ f',f=f'+1:=⟨f-1,ae⟩
  refine bG (cs:=[(false,[.bool])]) (fun z h'=>z.1=Nr (x.ay.drop i) (y.ay.drop j)/\h6=h') ?_ ?_
  ·refine af b2 ((q,m,d),()) rfl (ao ?_);refine ai (fun g2=>?_) (fun g2=>?_)
   ·have g2:(j:Int)=(m:Int):=by simpa using g2
    refine aO (cs:=[(false,[.bool])]) (true,()) rfl rfl ⟨?_,rfl⟩;rw [show y.ay.drop j=[] from OW ae,OM (l:=x.ay) (i:=i) ae] <;> rfl
   ·have g2:¬ (j:Int)=(m:Int):=by simpa using g2
    have hjlt:j<y.ay.length:=ae
    refine af b1 ((p,l,c),()) rfl (ao ?_);refine ai (fun g3=>?_) (fun g3=>?_)
    ·have g3:=OE g3;have hilt:i<x.ay.length:=ae
     have hdx:x.ay.drop i=x.ay[i]::x.ay.drop (i+1):=OM hilt;have hdy:y.ay.drop j=y.ay[j]::y.ay.drop (j+1):=OM hjlt;obtain ⟨a,ha,hc⟩:=v6.cells i hilt;obtain ⟨a',ha',hc'⟩:=u6.cells j hjlt;subst ha ha';refine af b1 ((some a,l,c),()) rfl (ao ?_);refine aC ⟨ae,ae⟩ (au rfl ?_);rw [show Int.toNat (i:Int)=i from ae];refine aG (x.ay[i].1,()) (dX hc).1 (ao ?_);refine af b2 ((some a',m,d),()) rfl (ao ?_);refine aC ⟨ae,ae⟩ (au rfl ?_);rw [show Int.toNat (j:Int)=j from ae];refine aG (y.ay[j].1,()) (dX hc').1 (ao ?_);rw [Om];refine aO (cs:=[(false,[.bool])]) (decide (fQ x.ay[i].1 y.ay[j].1),()) rfl rfl ⟨?_,rfl⟩;rw [hdx,hdy] <;> rfl
    ·have g3:=OF g3;refine aO (cs:=[(false,[.bool])]) (false,()) rfl rfl ⟨?_,rfl⟩;rw [show x.ay.drop i=[] from OW ae] <;> rfl
  rintro ⟨b11,⟨⟩⟩ h6' ⟨hb11,rfl⟩;simp only at hb11;subst hb11;refine ao ?_;refine ai (fun g2=>?_) (fun g2=>?_)
  ·obtain ⟨pp,rr,hdd,hor⟩:=Cb g2;have hilt:=wS hdd;have hdx:x.ay.drop i=x.ay[i]::x.ay.drop (i+1):=OM hilt;rw [hdx] at hdd;cases hdd;have hF:ek (f'+1) (x.ay.drop i) (y.ay.drop j)=x.ay[i]::ek (f'+1-1) (x.ay.drop (i+1)) (y.ay.drop j):=by
    rw [hdx];exact Lf hor
   obtain ⟨a,ha,hc⟩:=v6.cells i hilt;subst ha;refine af b6 ((po,lo,co),()) rfl (ao ?_);refine af b1 ((some a,l,c),()) rfl (ao ?_);refine aC ⟨ae,ae⟩ (au rfl ?_);rw [show Int.toNat (i:Int)=i from ae];refine aG (x.ay[i].1,(x.ay[i].2:Int),()) hc (ao ?_);refine lL (vs:=cB x.ay[i]) xj xI rfl ae ae aB rfl rfl s6 ae ae ae (fun h' e=>⟨(b1.an e aj).cells _ rfl,(b6.an e aj).cells _ rfl,trivial⟩) ?_;intro p7 c7 h7 s7 k7 hp7;have b17:=b1.an k7 (fun hh=>by have:=hsb _ hh; omega);have b67:=b6.an k7 (fun hh=>by have:=hsb _ hh; omega);refine ⟨⟨hpm i a x.ay _ (.inl rfl) hc h7 k7,b17.cells _ rfl,trivial⟩,?_⟩;refine ap b67 rfl aj ?_;intro h8 b8 k8 z8;refine aY (cs:=[(false,[.int .i64]),(false,[.int .i64])]) (((i+1:Nat):Int),(j:Int),()) ((x.ay.length-(i+1))+(y.ay.length-j)) rfl ae (by rw [hwi]; rfl) ⟨i+1,j,rfl,rfl,rfl,?_⟩;exact push _ (i+1) j h7 p7 c7 ae hjl ae hF ae s7 k7 h8 b8 k8
  ·have g2:=AD g2;refine bG (cs:=[(false,[.bool])]) (fun z h'=>z.1=Nr (y.ay.drop j) (x.ay.drop i)/\h6=h') ?_ ?_
   ·refine af b1 ((p,l,c),()) rfl (ao ?_);refine ai (fun g3=>?_) (fun g3=>?_)
    ·have g3:(i:Int)=(l:Int):=by simpa using g3
     refine aO (cs:=[(false,[.bool])]) (true,()) rfl rfl ⟨?_,rfl⟩;rw [show x.ay.drop i=[] from OW ae,OM (l:=y.ay) (i:=j) ae] <;> rfl
    ·have g3:¬ (i:Int)=(l:Int):=by simpa using g3
     have hilt:i<x.ay.length:=ae
     have hjlt:j<y.ay.length:=by
      rcases Po j y.ay.length with h | h
      ·exact h
      ·rcases g2 with g2 | ⟨_,_,_,_,_,g2,_⟩
       ·have:=PI.1 g2; omega
       ·rw [OW h] at g2; cases g2
     have hdx:x.ay.drop i=x.ay[i]::x.ay.drop (i+1):=OM hilt;have hdy:y.ay.drop j=y.ay[j]::y.ay.drop (j+1):=OM hjlt;obtain ⟨a,ha,hc⟩:=v6.cells i hilt;obtain ⟨a',ha',hc'⟩:=u6.cells j hjlt;subst ha ha';refine af b2 ((some a',m,d),()) rfl (ao ?_);refine aC ⟨ae,ae⟩ (au rfl ?_);rw [show Int.toNat (j:Int)=j from ae];refine aG (y.ay[j].1,()) (dX hc').1 (ao ?_);refine af b1 ((some a,l,c),()) rfl (ao ?_);refine aC ⟨ae,ae⟩ (au rfl ?_);rw [show Int.toNat (i:Int)=i from ae];refine aG (x.ay[i].1,()) (dX hc).1 (ao ?_);rw [Om];refine aO (cs:=[(false,[.bool])]) (decide (fQ y.ay[j].1 x.ay[i].1),()) rfl rfl ⟨?_,rfl⟩;rw [hdx,hdy] <;> rfl
   rintro ⟨b12,⟨⟩⟩ h6' ⟨hb12,rfl⟩;simp only at hb12;subst hb12;refine ao ?_;refine ai (fun g3=>?_) (fun g3=>?_)
   ·obtain ⟨pp,rr,hdd,hor⟩:=Cb g3;have hjlt:=wS hdd;have hdy:y.ay.drop j=y.ay[j]::y.ay.drop (j+1):=OM hjlt;rw [hdy] at hdd;cases hdd;have hF:ek (f'+1) (x.ay.drop i) (y.ay.drop j)=y.ay[j]::ek (f'+1-1) (x.ay.drop i) (y.ay.drop (j+1)):=by
     rw [hdy];exact Lr hor
    obtain ⟨a,ha,hc⟩:=u6.cells j hjlt;subst ha;refine af b6 ((po,lo,co),()) rfl (ao ?_);refine af b2 ((some a,m,d),()) rfl (ao ?_);refine aC ⟨ae,ae⟩ (au rfl ?_);rw [show Int.toNat (j:Int)=j from ae];refine aG (y.ay[j].1,(y.ay[j].2:Int),()) hc (ao ?_);refine lL (vs:=cB y.ay[j]) xj xI rfl ae ae aB rfl rfl s6 ae ae ae (fun h' e=>⟨(b2.an e aj).cells _ rfl,(b6.an e aj).cells _ rfl,trivial⟩) ?_;intro p7 c7 h7 s7 k7 hp7;have b27:=b2.an k7 (fun hh=>by have:=hsb _ hh; omega);have b67:=b6.an k7 (fun hh=>by have:=hsb _ hh; omega);refine ⟨⟨hpm j a y.ay _ (.inr rfl) hc h7 k7,b27.cells _ rfl,trivial⟩,?_⟩;refine ap b67 rfl aj ?_;intro h8 b8 k8 z8;refine aY (cs:=[(false,[.int .i64]),(false,[.int .i64])]) ((i:Int),((j+1:Nat):Int),()) ((x.ay.length-i)+(y.ay.length-(j+1))) rfl ae (by rw [hwj]; rfl) ⟨i,j+1,rfl,rfl,rfl,?_⟩;exact push _ i (j+1) h7 p7 c7 hil ae ae hF ae s7 k7 h8 b8 k8
   ·have g3:=AD g3;have hb:i<x.ay.length/\j<y.ay.length:=by
     rcases g2 with g2 | ⟨_,_,_,_,e1,e2,_⟩
     ·have h1:=PI.1 g2;rcases g3 with g3 | ⟨_,_,_,_,_,e2,_⟩
      ·have h2:=PI.1 g3; omega
      ·rw [g2] at e2; cases e2
     ·exact ⟨wS e1,wS e2⟩
    obtain ⟨hilt,hjlt⟩:=hb;have hdx:x.ay.drop i=x.ay[i]::x.ay.drop (i+1):=OM hilt;have hdy:y.ay.drop j=y.ay[j]::y.ay.drop (j+1):=OM hjlt;have n1:¬ fQ x.ay[i].1 y.ay[j].1:=by
     rcases g2 with g2 | ⟨_,_,_,_,e1,e2,hn⟩
     ·rw [hdx] at g2; cases g2
     ·rw [hdx] at e1; rw [hdy] at e2; cases e1; cases e2; exact hn
    have n2:¬ fQ y.ay[j].1 x.ay[i].1:=by
     rcases g3 with g3 | ⟨_,_,_,_,e1,e2,hn⟩
     ·rw [hdy] at g3; cases g3
     ·rw [hdy] at e1; rw [hdx] at e2; cases e1; cases e2; exact hn
    have hF:ek (f'+1) (x.ay.drop i) (y.ay.drop j)=if (x.ay[i].2+y.ay[j].2) % 4294967296=0 then ek f' (x.ay.drop (i+1)) (y.ay.drop (j+1)) else (x.ay[i].1,(x.ay[i].2+y.ay[j].2) % 4294967296)::ek f' (x.ay.drop (i+1)) (y.ay.drop (j+1)):=by
     rw [hdx,hdy];exact Jq n1 n2
    obtain ⟨a,ha,hc⟩:=v6.cells i hilt;obtain ⟨a',ha',hc'⟩:=u6.cells j hjlt;subst ha ha';refine af b1 ((some a,l,c),()) rfl (ao ?_);refine aC ⟨ae,ae⟩ (au rfl ?_);rw [show Int.toNat (i:Int)=i from ae];refine aG ((x.ay[i].2:Int),()) (dX hc).2 (ao ?_);refine af b2 ((some a',m,d),()) rfl (ao ?_);refine aC ⟨ae,ae⟩ (au rfl ?_);rw [show Int.toNat (j:Int)=j from ae];refine aG ((y.ay[j].2:Int),()) (dX hc').2 (ao ?_);rw [EQ];refine bG (cs:=[]) (fun z h'=>Lv h5 h3.size x.ay y.ay (((x.num+y.num) % 4294967296:Nat):Int) (i+1) (j+1) h') ?_ ?_
    ·refine ai (fun g4=>?_) (fun g4=>?_)
     ·have g4:¬ (x.ay[i].2+y.ay[j].2) % 4294967296=0:=by
       have:¬ (((x.ay[i].2+y.ay[j].2) % 4294967296:Nat):Int)=0:=by simpa using g4
       omega
      rw [OG g4] at hF;refine af b6 ((po,lo,co),()) rfl (ao ?_);refine af b1 ((some a,l,c),()) rfl (ao ?_);refine aC ⟨ae,ae⟩ (au rfl ?_);refine aG (x.ay[i].1,()) (dX hc).1 (ao ?_);refine lL (vs:=cB (x.ay[i].1,(x.ay[i].2+y.ay[j].2) % 4294967296)) xj xI rfl ae ae aB rfl rfl s6 ae ae ae (fun h' e=>⟨bF e aj _ _ (dX hc).1,(b1.an e aj).cells _ rfl,(b6.an e aj).cells _ rfl,trivial⟩) ?_;intro p7 c7 h7 s7 k7 hp7;have b17:=b1.an k7 (fun hh=>by have:=hsb _ hh; omega);have b67:=b6.an k7 (fun hh=>by have:=hsb _ hh; omega);refine ⟨⟨hpm i a x.ay _ (.inl rfl) (dX hc).1 h7 k7,b17.cells _ rfl,trivial⟩,?_⟩;refine ap b67 rfl aj ?_;intro h8 b8 k8 z8;exact aO (cs:=[]) () rfl rfl (push _ (i+1) (j+1) h7 p7 c7 ae ae ae hF ae s7 k7 h8 b8 k8)
     ·have g4:(x.ay[i].2+y.ay[j].2) % 4294967296=0:=by
       have:(((x.ay[i].2+y.ay[j].2) % 4294967296:Nat):Int)=0:=by simpa using g4
       omega
      rw [OH g4] at hF;exact aO (cs:=[]) () rfl rfl ⟨ae,ae,k6,O,po,lo,co,f',b6,s6,by rw [hO,hF],ae,ae⟩
    ·rintro ⟨⟩ h7 I7;exact aY (cs:=[(false,[.int .i64]),(false,[.int .i64])]) (((i+1:Nat):Int),((j+1:Nat):Int),()) ((x.ay.length-(i+1))+(y.ay.length-(j+1))) rfl ae (by rw [hwi,hwj]; rfl) ⟨i+1,j+1,rfl,rfl,rfl,I7⟩
 ·simp only [Bool.or_eq_false_iff,decide_eq_false_iff_not] at g1;rw [OW ae,OW ae,GY,Pr] at hO;refine af b6 ((po,lo,co),(((x.num+y.num) % 4294967296:Nat):Int),()) rfl (ao ?_);refine ap b3 rfl aj ?_;intro h7 b7 k7 z7;have b7:bf h7 h2.size 94 [.slice po lo co,.int .u32 (((x.num+y.num) % 4294967296:Nat):Int)]:=b7;refine af b7 ((po,lo,co),(((x.num+y.num) % 4294967296:Nat):Int),()) rfl ?_;refine ⟨Ch.trans e06 k7 (fun j hj hl=>by simp at hj; omega),po,lo,co,rfl,?_⟩;show SL h7 h.size 109 2 po lo co ((Cc x.ay y.ay).map cB);rw [hO];exact (s6.bd k7 (fun j hj=>by have:=hsb j hj; simp; omega)).mono ae
def CW (h:Hp) (A A1 A7:Nat) (us:List Tok) (d:Int) (ts:List Tok) (q:dT) (rest:Nat->fG->List Tok->dT) (m:Nat) (h':Hp):Prop :=
 Ch [A] h h'/\bf h' A1 94 [.slice none 0 0,.int .u32 0]/\∃ x p l c ts' d' e',bf h' A7 94 [.slice p l c,.int .u32 (x.num:Int)]/\SL h' (A1+1) 109 2 p l c (x.ay.map cB)/\Good x/\RQ h' A us ts' d' e' /\
  ((e'=0/\d'=d/\∃ n,q=rest n x ts'/\ts'.length<=n/\ts' <:+ ts/\x.ay.length+ts'.length<=ts.length/\m=n+1)\/(e'≠0/\q=.error e'/\x.ay.length<=ts.length/\m=0))
def yv {e:Nat} {ts:List Tok} {c:UInt8} (h:cV e ts c=true):e=0/\∃ t r,ts=t::r/\eE t c=true:=by
 unfold cV at h;simp only [Bool.and_eq_true,decide_eq_true_eq] at h;refine ⟨h.1,?_⟩;cases ts with
 | nil=>have:=h.2; cases this
 | cons t r=>exact ⟨t,r,rfl,h.2⟩
def Az {A:Nat} {us:List Tok} {d:Nat} {fac:List Tok->dT} (hfac:LP 203 A us d fac) (hfine:∀ ts,Wf ts->jj ts (fac ts)):LP 194 A us d (lO fac):=by
 intro h ts rq w hts;refine ba (args:=[ptr A]) mixed Tryz.func194 aB (iR (some ⟨A,0,none⟩)) ?_;unfold fx bN aN aS av aI bZ;have hA:=rq.lt;refine bm ?_;intro h1 b1 e1 z1;refine aK (hfac h1 ts (rq.an e1 aj) w hts) ?_;rintro _ h2 ⟨k2,x,p,l,c,ts',d',e',rfl,s2,gx,rq2,post⟩;refine ⟨((p,l,c),(x.num:Int),()),rfl,ao ?_⟩;refine bm ?_;intro h3 b3 e3 z3;refine ap b3 rfl aj ?_;intro h4 b4 k4 z4;have b4:bf h4 h2.size 94 [.slice p l c,.int .u32 (x.num:Int)]:=b4;have hz2:=k2.size;have e24:Ext h2 h4:=Ch.trans e3 k4 (fun j hj hl=>by simp at hj; omega);have k04:Ch [A] h h4:=Ch.trans (Ch.trans (e1.mono aj) k2 (fun j hj _=>hj)) e24 aj;have b14:=(b1.an k2 (by simp; omega)).an e24 aj;have start:∃ m,CW h A h.size h2.size us d ts (lO fac ts) (iH fac) m h4:=by
  have hf:=hfine ts w;revert post hf;unfold lO;cases hfr:fac ts with
  | error e =>
   rintro ⟨he,he0,hxl⟩ _;exact ⟨0,k04,b14,x,p,l,c,ts',d',e',b4,(s2.bd e24 aj).mono ae,gx,rq2.an e24 aj,.inr ⟨ae,by rw [he],hxl,rfl⟩⟩
  | ok z =>
   obtain ⟨y,r⟩:=z;rintro ⟨rfl,rfl,rfl,rfl⟩ ⟨_,hs,hl,hn⟩;exact ⟨_,k04,b14,x,p,l,c,ts',_,0,b4,(s2.bd e24 aj).mono ae,gx,rq2.an e24 aj,.inl ⟨rfl,rfl,ts'.length,rfl,OP _,hs,hn,rfl⟩⟩
 obtain ⟨m0,start⟩:=start;refine bJ (cs:=[]) (fun y m h'=>CW h A h.size h2.size us d ts (lO fac ts) (iH fac) m h') () m0 rfl start ?_;rintro ⟨⟩ m h5 ⟨k5,b15,x,p,l,c,ts',d',e',b5,s5,gx,rq5,cas⟩;refine ao ?_;have hh2:h2.size<h5.size:=b5.lt;have hz5:=k5.size;refine uY rq5 ?_;refine ai (fun g1=>?_) (fun g1=>?_)
 ·obtain ⟨he0,t,r,rfl,gS⟩:=yv g1;rcases cas with ⟨_,rfl,n,hq,hn,hsuf,hxn,rfl⟩ | ⟨h0,_⟩
  case inr=>exact absurd he0 h0
  subst he0;simp only [List.length_cons] at hn hxn;obtain ⟨n',rfl⟩:∃ n',n=n'+1:=⟨n-1,ae⟩
  have wr:Wf r:=(w.suffix hsuf).tail;have hpl:lO fac ts=match fac r with
   | .error e=>.error e
   | .ok (y,r'')=>if x.ay≠[]/\y.ay≠[] then .error 21 else if y.ay≠[] then iH fac n' (eI y x.num) r'' else iH fac n' (eI x y.num) r'':=by
   rw [hq];show (if eE t 42=true then _ else _)=_;rw [OH gS]
   all_goals (cases fac r <;> rfl)
  refine uD rq5 ?_;intro h6 k6 rq6;have k06:Ch [A] h h6:=Ch.trans k5 k6 (fun j hj _=>hj);have b16:=b15.an k6 (by simp; omega);have b6:=b5.an k6 (by simp; omega);have s6:=s5.bd k6 (fun j hj=>by have:=(s5.bH hj).1; simp; omega);refine aK (hfac h6 r rq6 wr ae) ?_;rintro _ h7 ⟨k7,y,p',l',c',ts',d',e',rfl,s7,gy,rq7,post⟩;refine ⟨((p',l',c'),(y.num:Int),()),rfl,ao ?_⟩;have hz7:=k7.size;refine bm ?_;intro h8 b8 e8 z8;refine ap b8 rfl aj ?_;intro h9 b9 k9 z9;have b9:bf h9 h7.size 94 [.slice p' l' c',.int .u32 (y.num:Int)]:=b9;have e79:Ext h7 h9:=Ch.trans e8 k9 (fun j hj hl=>by simp at hj; omega);have k69:Ch [A] h6 h9:=Ch.trans k7 e79 aj;have k09:Ch [A] h h9:=Ch.trans k06 k69 (fun j hj _=>hj);have b19:=b16.an k69 (by simp; omega);have bx9:=b6.an k69 (by simp; omega);have sx9:=s6.bd k69 (fun j hj=>by have:=(s6.bH hj).1; simp; omega);have hz6:=k06.size;have sy9:=(s7.bd e79 aj).mono (b':=h.size+1) (by have:=k6.size; omega);obtain ⟨i9,⟨pq,lq,cq,bQ,vq,hpq,hiq,huq⟩,htq⟩:=rq7.an e79 aj;have rq9:RQ h9 A us ts' d' e':=⟨i9,⟨pq,lq,cq,bQ,vq,hpq,hiq,huq⟩,htq⟩
  refine au rfl ?_;rw [az];refine af bQ ((e':Int),()) rfl (ao ?_);refine ai (fun g2=>?_) (fun g2=>?_)
  ·have g2:¬ e'=0:=by simpa using g2
   refine gZ k09 (OP _) hA b19 bx9 sx9 ae gx rq9 ?_;rw [hpl];revert post;cases fac r with
   | error e=>rintro ⟨he,he0,_⟩; exact ⟨he,he0,ae⟩
   | ok z=>obtain ⟨_,_⟩:=z; rintro ⟨he,_,_,_⟩; exact absurd he g2
  ·have g2:e'=0:=by simpa using g2
   subst g2;have hff:=hfine r wr;revert post hff;cases hfr:fac r with
   | error e=>rintro ⟨rfl,he,_⟩ _; exact absurd rfl he
   | ok z =>
    obtain ⟨y',r''⟩:=z;rintro ⟨_,rfl,rfl,rfl⟩ ⟨_,hs2,hl2,hn2⟩;rw [hfr] at hpl;simp only at hpl;have hlx:l=x.ay.length:=by rw [sx9.1,OI]
    have hly:l'=y.ay.length:=by rw [sy9.1,OI]
    have hsuf2:ts' <:+ ts:=(hs2.trans (Pc _ _)).trans hsuf;refine bG (cs:=[(false,[.bool])]) (fun z h'=>z.1=(decide (x.ay≠[]) && decide (y.ay≠[]))/\h9=h') ?_ ?_
    ·refine af bx9 ((p,l,c),()) rfl (ao ?_);refine ai (fun g3=>?_) (fun g3=>?_)
     ·have g3:=OE g3;refine af b9 ((p',l',c'),()) rfl (ao ?_);refine aO (cs:=[(false,[.bool])]) (decide ((l':Int)>0),()) rfl rfl ⟨?_,rfl⟩;have hx0:x.ay≠[]:=fun hh=>by rw [hh] at hlx; simp at hlx; omega
      rw [OK hx0,O3];cases hy0:y.ay with
      | nil=>rw [hy0] at hly; simp at hly; subst hly; rfl
      | cons a b =>
       rw [hy0] at hly;simp only [List.length_cons] at hly;show decide ((l':Int)>0)=decide (a::b≠[]);rw [OK ae,OK aj]
     ·have g3:=OF g3;refine aO (cs:=[(false,[.bool])]) (false,()) rfl rfl ⟨?_,rfl⟩;have hx0:x.ay=[]:=Pk.1 ae;rw [hx0] <;> rfl
    ·rintro ⟨b10,⟨⟩⟩ h9' ⟨hb10,rfl⟩;simp only at hb10;subst hb10;refine ao ?_;have hh9:=b9.lt;have hhx9:=bx9.lt;have hz9:=k09.size;have hz69:=k69.size;refine ai (fun g3=>?_) (fun g3=>?_)
     ·simp only [Bool.and_eq_true,decide_eq_true_eq] at g3;rw [OH g3] at hpl;refine iV (w:=21) rq9 ?_;intro h10 k10 rq10;rw [hpl];refine gZ (Ch.trans k09 k10 (fun j hj _=>hj)) (OP _) hA (b19.an k10 (by simp; omega)) (bx9.an k10 (by simp; omega)) (sx9.bd k10 (fun j hj=>by have:=(sx9.bH hj).1; simp; omega)) ae gx rq10 ?_;exact ⟨rfl,ae,ae⟩
     ·rw [OG (by intro hh; rw [OK hh.1,OK hh.2] at g3; cases g3)] at hpl;refine af b9 ((p',l',c'),()) rfl (ao ?_);refine ai (fun g4=>?_) (fun g4=>?_)
      ·have g4:=OE g4;rw [OH (by intro hh; rw [hh] at hly; simp at hly; omega)] at hpl;refine af b9 ((p',l',c'),(y.num:Int),()) rfl (ao ?_);rw [az];refine af bx9 ((x.num:Int),()) rfl (ao ?_);refine aK (ov sy9.Dl ae sy9.zb x.num) ?_;rintro _ h10 ⟨e10,q',m',cq',rfl,s10⟩;refine ⟨((q',m',cq'),((eI y x.num).num:Int),()),rfl,ao ?_⟩;refine ap (bx9.an e10 aj) rfl aj ?_;intro h11 b11 k11 z11;have b11:bf h11 h2.size 94 [.slice q' m' cq',.int .u32 ((eI y x.num).num:Int)]:=b11;have k911:Ch [h2.size] h9 h11:=Ch.trans (e10.mono aj) k11 (fun j hj _=>hj);have htl:=dj x.num y.ay;refine aY (cs:=[]) () (n'+1) rfl ae rfl ⟨Ch.trans k09 k911 (fun j hj hl=>by simp at hj; omega),b19.an k911 (by simp; omega),eI y x.num,q',m',cq',ts',_,0,b11,(s10.bd k11 (fun j hj=>by have:=(s10.bH hj).1; simp; omega)).mono ae,gy.T _,rq9.an k911 (by simp; omega),
        .inl ⟨rfl,rfl,n',hpl,ae,hsuf2,?_,rfl⟩⟩
       show (dL x.num y.ay).length+ts'.length<=ts.length;omega
      ·have g4:=OF g4;rw [OG (by intro hh; exact hh (Pk.1 ae))] at hpl;refine af bx9 ((p,l,c),(x.num:Int),()) rfl (ao ?_);rw [az];refine af b9 ((y.num:Int),()) rfl (ao ?_);refine aK (ov sx9.Dl ae sx9.zb y.num) ?_;rintro _ h10 ⟨e10,q',m',cq',rfl,s10⟩;refine ⟨((q',m',cq'),((eI x y.num).num:Int),()),rfl,ao ?_⟩;refine ap (bx9.an e10 aj) rfl aj ?_;intro h11 b11 k11 z11;have b11:bf h11 h2.size 94 [.slice q' m' cq',.int .u32 ((eI x y.num).num:Int)]:=b11;have k911:Ch [h2.size] h9 h11:=Ch.trans (e10.mono aj) k11 (fun j hj _=>hj);have htl:=dj y.num x.ay;refine aY (cs:=[]) () (n'+1) rfl ae rfl ⟨Ch.trans k09 k911 (fun j hj hl=>by simp at hj; omega),b19.an k911 (by simp; omega),eI x y.num,q',m',cq',ts',_,0,b11,(s10.bd k11 (fun j hj=>by have:=(s10.bH hj).1; simp; omega)).mono ae,gx.T _,rq9.an k911 (by simp; omega),
        .inl ⟨rfl,rfl,n',hpl,ae,hsuf2,?_,rfl⟩⟩
       show (dL y.num x.ay).length+ts'.length<=ts.length;omega
 ·refine gZ k5 (OP _) hA b15 b5 s5 ae gx rq5 ?_;rcases cas with ⟨rfl,rfl,n,hq,hn,hsuf,hxn,rfl⟩ | ⟨h0,hq,hxl,rfl⟩
  ·rw [hq,xJ g1];exact ⟨rfl,rfl,rfl,rfl⟩
  ·rw [hq];exact ⟨rfl,h0,hxl⟩
def C0 (b:Bool) (y:fG):fG:=if b=true then eI y 4294967295 else y
def Good.C0 {y:fG} (g:Good y) (b:Bool):Good (C0 b y):=by
 cases b
 ·exact g
 ·exact g.T _
def DA (b:Bool) (y:fG):(C0 b y).ay.length<=y.ay.length:=by
 cases b
 ·exact OP _
 ·exact dj _ _
def Cn {A:Nat} {us:List Tok} {d:Nat} {part:List Tok->dT} (hpart:LP 194 A us d part) (hfine:∀ ts,Wf ts->jj ts (part ts)):LP 181 A us d (jh part):=by
 intro h ts rq w hts;refine ba (args:=[ptr A]) mixed Tryz.func181 aB (ji (some ⟨A,0,none⟩)) ?_;unfold fF bN aN aS av aI bZ;have hA:=rq.lt;refine bm ?_;intro h1 b1 e1 z1;refine aK (hpart h1 ts (rq.an e1 aj) w hts) ?_;rintro _ h2 ⟨k2,x,p,l,c,ts',d',e',rfl,s2,gx,rq2,post⟩;refine ⟨((p,l,c),(x.num:Int),()),rfl,ao ?_⟩;refine bm ?_;intro h3 b3 e3 z3;refine ap b3 rfl aj ?_;intro h4 b4 k4 z4;have b4:bf h4 h2.size 94 [.slice p l c,.int .u32 (x.num:Int)]:=b4;have hz2:=k2.size;have e24:Ext h2 h4:=Ch.trans e3 k4 (fun j hj hl=>by simp at hj; omega);have k04:Ch [A] h h4:=Ch.trans (Ch.trans (e1.mono aj) k2 (fun j hj _=>hj)) e24 aj;have b14:=(b1.an k2 (by simp; omega)).an e24 aj;have start:∃ m,CW h A h.size h2.size us d ts (jh part ts) (lg part) m h4:=by
  have hf:=hfine ts w;revert post hf;unfold jh;cases hfr:part ts with
  | error e =>
   rintro ⟨he,he0,hxl⟩ _;exact ⟨0,k04,b14,x,p,l,c,ts',d',e',b4,(s2.bd e24 aj).mono ae,gx,rq2.an e24 aj,.inr ⟨ae,by rw [he],hxl,rfl⟩⟩
  | ok z =>
   obtain ⟨y,r⟩:=z;rintro ⟨rfl,rfl,rfl,rfl⟩ ⟨_,hs,hl,hn⟩;exact ⟨_,k04,b14,x,p,l,c,ts',_,0,b4,(s2.bd e24 aj).mono ae,gx,rq2.an e24 aj,.inl ⟨rfl,rfl,ts'.length,rfl,OP _,hs,hn,rfl⟩⟩
 obtain ⟨m0,start⟩:=start;refine bJ (cs:=[]) (fun y m h'=>CW h A h.size h2.size us d ts (jh part ts) (lg part) m h') () m0 rfl start ?_;rintro ⟨⟩ m h5 ⟨k5,b15,x,p,l,c,ts',d',e',b5,s5,gx,rq5,cas⟩;refine ao ?_;have hh2:h2.size<h5.size:=b5.lt;have hz5:=k5.size;refine bG (cs:=[(false,[.bool])]) (fun z h'=>z.1=(cV e' ts' 43 || cV e' ts' 45)/\h5=h') ?_ ?_
 ·refine uY rq5 ?_;refine ai (fun g1=>?_) (fun g1=>?_)
  ·exact aO (cs:=[(false,[.bool])]) (true,()) rfl rfl ⟨by rw [g1]; rfl,rfl⟩
  ·refine uY rq5 ?_;exact aO (cs:=[(false,[.bool])]) (cV e' ts' 45,()) rfl rfl ⟨by rw [g1]; rfl,rfl⟩
 rintro ⟨b7,⟨⟩⟩ h5' ⟨hb7,rfl⟩;simp only at hb7;subst hb7;refine ao ?_;refine ai (fun g1=>?_) (fun g1=>?_)
 ·have hor:cV e' ts' 43=true\/cV e' ts' 45=true:=by simpa [Bool.or_eq_true] using g1
  have hsp:∃ t r,ts'=t::r/\e'=0/\(eE t 43=true\/(eE t 43=false/\eE t 45=true)):=by
   rcases hor with hh | hh
   ·obtain ⟨he0,t,r,rfl,gS⟩:=yv hh;exact ⟨t,r,rfl,he0,.inl gS⟩
   ·obtain ⟨he0,t,r,rfl,gS⟩:=yv hh;refine ⟨t,r,rfl,he0,?_⟩;cases h43:eE t 43 with
    | true=>exact .inl rfl
    | false=>exact .inr ⟨rfl,gS⟩
  obtain ⟨t,r,rfl,he0,hk⟩:=hsp;rcases cas with ⟨_,rfl,n,hq,hn,hsuf,hxn,rfl⟩ | ⟨h0,_⟩
  case inr=>exact absurd he0 h0
  subst he0;simp only [List.length_cons] at hn hxn;obtain ⟨n',rfl⟩:∃ n',n=n'+1:=⟨n-1,ae⟩
  have wr:Wf r:=(w.suffix hsuf).tail;have h45:eE t 43=true->eE t 45=false:=by
   intro hh;unfold eE at hh ⊢;simp only [Bool.and_eq_true,beq_iff_eq] at hh;rw [hh.2]
   simp
  have hpl:jh part ts=match part r with
   | .error e=>.error e
   | .ok (y,r'')=>lg part n' (fO x (C0 (eE t 45) y)) r'':=by
   rw [hq];show (if eE t 43=true then _ else if eE t 45=true then _ else _)=_;rcases hk with hk | ⟨hk,hk2⟩
   ·rw [OH hk,h45 hk]
    all_goals (cases part r <;> rfl)
   ·rw [OG (by rw [hk]; simp),OH hk2,hk2]
    all_goals (cases part r <;> rfl)
  refine uY rq5 ?_;have hsb:cV 0 (t::r) 45=eE t 45:=by unfold cV; rfl
  rw [hsb];generalize eE t 45=b8 at hpl;refine uD rq5 ?_;intro h6 k6 rq6;have k06:Ch [A] h h6:=Ch.trans k5 k6 (fun j hj _=>hj);have b16:=b15.an k6 (by simp; omega);have b6:=b5.an k6 (by simp; omega);have s6:=s5.bd k6 (fun j hj=>by have:=(s5.bH hj).1; simp; omega);refine aK (hpart h6 r rq6 wr ae) ?_;rintro _ h7 ⟨k7,y,p',l',c',ts',d',e',rfl,s7,gy,rq7,post⟩;refine ⟨((p',l',c'),(y.num:Int),()),rfl,ao ?_⟩;have hz7:=k7.size;refine bm ?_;intro h8 b8' e8 z8;refine ap b8' rfl aj ?_;intro h9 b9 k9 z9;have b9:bf h9 h7.size 94 [.slice p' l' c',.int .u32 (y.num:Int)]:=b9;have e79:Ext h7 h9:=Ch.trans e8 k9 (fun j hj hl=>by simp at hj; omega);have k69:Ch [A] h6 h9:=Ch.trans k7 e79 aj;have k09:Ch [A] h h9:=Ch.trans k06 k69 (fun j hj _=>hj);have b19:=b16.an k69 (by simp; omega);have bx9:=b6.an k69 (by simp; omega);have sx9:=s6.bd k69 (fun j hj=>by have:=(s6.bH hj).1; simp; omega);have hz6:=k06.size;have hz66:=k6.size;have sy9:=(s7.bd e79 aj).mono (b':=h.size+1) ae;have rq9:=rq7.an e79 aj;have hhx9:=bx9.lt;have hz9:=k09.size;have hz69:=k69.size;have hyl:y.ay.length<=r.length:=by
   have hff:=hfine r wr;revert post hff;cases part r with
   | error e=>rintro ⟨_,_,hl⟩ _; exact hl
   | ok z =>
    obtain ⟨y',r''⟩:=z;rintro ⟨_,rfl,_,_⟩ ⟨_,_,_,hl⟩;omega
  have hb6:=b6.lt;refine bG (cs:=[]) (fun _ h'=>Ch [h7.size] h9 h'/\∃ p l c,bf h' h7.size 94 [.slice p l c,.int .u32 ((C0 b8 y).num:Int)]/\SL h' (h.size+1) 109 2 p l c ((C0 b8 y).ay.map cB)) ?_ ?_
  ·refine ai (fun g3=>?_) (fun g3=>?_)
   ·subst g3;refine af b9 ((p',l',c'),(y.num:Int),()) rfl (ao ?_);refine aK (ov sy9.Dl ae sy9.zb 4294967295) ?_;rintro _ h10 ⟨e10,q',m',cq',rfl,s10⟩;refine ⟨((q',m',cq'),((eI y 4294967295).num:Int),()),rfl,ao ?_⟩;have hb9:=b9.lt;refine ap (b9.an e10 aj) rfl aj ?_;intro h11 b11 k11 z11;have b11:bf h11 h7.size 94 [.slice q' m' cq',.int .u32 ((eI y 4294967295).num:Int)]:=b11;exact aO (cs:=[]) () rfl rfl ⟨Ch.trans (e10.mono aj) k11 (fun j hj _=>hj),q',m',cq',b11,(s10.bd k11 (fun j hj=>by have:=(s10.bH hj).1; simp; omega)).mono ae⟩
   ·subst g3;exact aO (cs:=[]) () rfl rfl ⟨Ch.refl _ _,p',l',c',b9,sy9⟩
  rintro ⟨⟩ h10 ⟨k10,q,m,cq,b10,s10⟩;refine ao ?_;have gs:=gy.C0 b8;have hsl:=DA b8 y;have bx10:=bx9.an k10 (by simp; omega);have sx10:=sx9.bd k10 (fun j hj=>by have:=(sx9.bH hj).2; have:=(s6.bH hj).2; simp; omega);have b110:=b19.an k10 (by simp; omega);have rq10:=rq9.an k10 (by simp; omega);have k010:Ch [A] h h10:=Ch.trans k09 k10 (fun j hj hl=>by simp at hj; omega);have hz10:=k10.size;refine af bx10 ((p,l,c),(x.num:Int),()) rfl (ao ?_);refine af b10 ((q,m,cq),((C0 b8 y).num:Int),()) rfl (ao ?_);refine aK (Hz sx10.Dl s10.Dl sx10.zb s10.zb ae) ?_;rintro _ h11 ⟨e11,q',m',cq',rfl,s11⟩;refine ⟨((q',m',cq'),((fO x (C0 b8 y)).num:Int),()),rfl,ao ?_⟩;have hb10:=bx10.lt;refine ap (bx10.an e11 aj) rfl aj ?_;intro h12 b12 k12 z12;have b12:bf h12 h2.size 94 [.slice q' m' cq',.int .u32 ((fO x (C0 b8 y)).num:Int)]:=b12;have k1012:Ch [h2.size] h10 h12:=Ch.trans (e11.mono aj) k12 (fun j hj _=>hj);have hall:(fO x (C0 b8 y)).ay.length<=x.ay.length+(C0 b8 y).ay.length:=jG x.ay (C0 b8 y).ay
  have mk:∀ m,((e'=0/\d'=d/\∃ n,jh part ts=lg part n (fO x (C0 b8 y)) ts'/\ts'.length<=n/\ts' <:+ ts/\(fO x (C0 b8 y)).ay.length+ts'.length<=ts.length/\m=n+1)\/(e'≠0/\jh part ts=.error e'/\(fO x (C0 b8 y)).ay.length<=ts.length/\m=0)) ->
    CW h A h.size h2.size us d ts (jh part ts) (lg part) m h12:=fun m hc =>
   ⟨Ch.trans k010 k1012 (fun j hj hl=>by simp at hj; omega),b110.an k1012 (by simp; omega),fO x (C0 b8 y),q',m',cq',ts',d',e',b12,(s11.bd k12 (fun j hj=>by have:=(s11.bH hj).1; simp; omega)).mono ae,gx.A gs,rq10.an k1012 (by simp; omega),hc⟩
  have hff:=hfine r wr;revert post hff;cases hfr:part r with
  | error e =>
   rintro ⟨he,he0,_⟩ _;refine aY (cs:=[]) () 0 rfl ae rfl (mk 0 (.inr ⟨ae,?_,ae,rfl⟩));rw [hpl,hfr,he]
  | ok z =>
   obtain ⟨y',r''⟩:=z;rintro ⟨he,rfl,rfl,hd'⟩ ⟨_,hs2,hl2,hn2⟩;rw [hfr] at hpl;exact aY (cs:=[]) () (n'+1) rfl ae rfl (mk _ (.inl ⟨he,hd',n',hpl,ae,(hs2.trans (Pc _ _)).trans hsuf,ae,rfl⟩))
 ·have g1:cV e' ts' 43=false/\cV e' ts' 45=false:=by simpa [Bool.or_eq_false_iff] using g1
  refine gZ k5 (OP _) hA b15 b5 s5 ae gx rq5 ?_;rcases cas with ⟨rfl,rfl,n,hq,hn,hsuf,hxn,rfl⟩ | ⟨h0,hq,hxl,rfl⟩
  ·rw [hq,zD g1.1 g1.2];exact ⟨rfl,rfl,rfl,rfl⟩
  ·rw [hq];exact ⟨rfl,h0,hxl⟩
def J6 (A:Nat) {us:List Tok} (hz:∀ t,t∈us->t.text.size<=9223372036854775807):∀ k d:Nat,d+k=32->LP 181 A us d (nw k):=by
 intro k
 induction k with
 | zero =>
  intro d hd;exact Cn (Az (zS (o:=none) hz ae (by show d=32; omega) (by intro f hf; cases hf)) (fm (by intro f hf; cases hf))) (iX (fm (by intro f hf; cases hf)))
 | succ k ih =>
  intro d hd;have hfine:∀ f,some (nw k)=some f->∀ ts,Wf ts->jj ts (f ts):=by
   intro f hf;cases hf;exact ki k
  exact Cn (Az (zS (o:=some (nw k)) hz ae ⟨ae,ih (d+1) ae⟩ hfine) (fm hfine)) (iX (fm hfine))
def sV {h : Hp} {p : Option XC} {l c : Nat} {ts : List Tok} (v : Vw h p l c ts) (hp : ∀ i, i ∈ aE p -> i < h.size) (w : Wf ts) (hts : ts.length <= 2 ^ 40) (hz : ∀ t, t ∈ ts -> t.text.size <= 9223372036854775807) :
    HC Tryz.prog 164 #[.slice p l c] h (uS h (bL ts)) := by
  refine ba (args := [.slice p l c]) mixed Tryz.func164 aB (nD p l c) ?_;unfold jk dH aS av aw aI;refine bm ?_;intro h1 b1 e1 z1;refine bm ?_;intro h2 b2 e2 z2;have hll := v.len;have e02 := e1.trans e2;have rq2 : RQ h2 h1.size ts ts (0 : Nat) 0 := ⟨0, ⟨p, l, c, b2, v.an e02 aj, fun i hi => by have := hp i hi; omega, P9 _, hts⟩, rfl⟩
  refine aK (J6 h1.size hz 32 0 rfl h2 ts rq2 w hts) ?_;rintro _ h3 ⟨k3, x, p', l', c', ts', d', e', rfl, s3, gx, rq3, post⟩;refine ⟨((p', l', c'), (x.num : Int), ()), rfl, ao ?_⟩;refine bm ?_;intro h4 b4 e4 z4;refine ap b4 rfl aj ?_;intro h5 b5 k5 z5;have b5 : bf h5 h3.size 94 [.slice p' l' c', .int .u32 (x.num : Int)] := b5;have e35 : Ext h3 h5 := Ch.trans e4 k5 (fun j hj hl => by simp at hj; omega);have hz3 := k3.size;have hb2 := b2.lt;have e05 : Ext h h5 := Ch.trans (Ch.trans e02 k3 (fun j hj hl => by simp at hj; omega)) e35 aj;have b15 := ((b1.an e2 aj).an k3 (by simp; omega)).an e35 aj;have rq5 := rq3.an e35 aj;have s5 := s3.bd e35 aj;obtain ⟨i, ⟨q, m, cq, bQ, vq, hq, hi, hu⟩, ht⟩ := rq5;have rq5 : RQ h5 h1.size ts ts' d' e' := ⟨i, ⟨q, m, cq, bQ, vq, hq, hi, hu⟩, ht⟩
  have bad : ∀ hx (bQ : ∃ q m cq i d, bf hx h1.size 292 [.slice q m cq, .int .i64 i, .int .i64 d, .int .i64 (e' : Int)]) , bf hx h.size 94 [.slice none 0 0, .int .u32 0] -> Ext h hx -> bL ts = .error e' -> (T.ah ⟨h1.size, 3, none⟩ [.int .i64] fun (n10 : Int) => T.ak ⟨h.size, 0, none⟩ [.slice none 0 0, .int .u32 (0 : Int)] <| T.aT [(⟨h1.size, 3, none⟩, [.int .i64 n10])] <|
      T.ah ⟨h.size, 0, none⟩ [.slice 109, .int .u32] fun (p : Option XC) (l c : Nat) (n : Int) => T.ret (.tuple #[.agg #[.slice p l c, .int .u32 n], .int .i64 n10])) [] (fun v h' => uS h (bL ts) v h') hx := by
    rintro hx ⟨q, m, cq, i, d, bQ⟩ b1x ex he;refine af bQ ((e' : Int), ()) rfl (ao ?_);refine ap b1x rfl aj ?_;intro h7 b7 k7 z7;have b7 : bf h7 h.size 94 [.slice none 0 0, .int .u32 0] := b7;have bQ7 := bQ.an k7 (by simp; omega);refine ⟨⟨bQ7.cells _ rfl, trivial⟩, ?_⟩;refine af b7 ((none, 0, 0), (0 : Int), ()) rfl ?_;refine ⟨Ch.trans ex k7 (fun j hj hl => by simp at hj; omega), ?_⟩;rw [he]
  have good : ∀ hx, bf hx h3.size 94 [.slice p' l' c', .int .u32 (x.num : Int)] -> bf hx h.size 94 [.slice none 0 0, .int .u32 0] -> SL hx h2.size 109 2 p' l' c' (x.ay.map cB) -> Ext h hx -> bL ts = .ok x -> (T.ah ⟨h3.size, 0, none⟩ [.slice 109, .int .u32] fun (p : Option XC) (l c : Nat) (n : Int) => T.ak ⟨h.size, 0, none⟩ [.slice p l c, .int .u32 n] <|
      T.ah ⟨h.size, 0, none⟩ [.slice 109, .int .u32] fun (p : Option XC) (l c : Nat) (n : Int) => T.ret (.tuple #[.agg #[.slice p l c, .int .u32 n], .int .i64 (0 : Int)])) [] (fun v h' => uS h (bL ts) v h') hx := by
    intro hx bx b1x sx ex he;refine af bx ((p', l', c'), (x.num : Int), ()) rfl (ao ?_);refine ap b1x rfl aj ?_;intro h7 b7 k7 z7;have b7 : bf h7 h.size 94 [.slice p' l' c', .int .u32 (x.num : Int)] := b7;refine af b7 ((p', l', c'), (x.num : Int), ()) rfl ?_;refine ⟨Ch.trans ex k7 (fun j hj hl => by simp at hj; omega), ?_⟩;rw [he];exact ⟨p', l', c', rfl, (sx.bd k7 (fun j hj => by have := (sx.bH hj).1; simp; omega)).mono ae, gx⟩
  rw [az];refine af bQ ((e' : Int), ()) rfl (ao ?_);refine ai (fun g1 => ?_) (fun g1 => ?_)
  · have g1 : e' = 0 := by have : (e' : Int) = 0 := by simpa using g1
                           omega
    subst g1
    have hok : nw 32 ts = .ok (x, ts') := by
      revert post;cases nw 32 ts with
      | error e => rintro ⟨rfl, h0, _⟩; exact absurd rfl h0
      | ok z => obtain ⟨y, r⟩ := z; rintro ⟨_, rfl, rfl, _⟩; rfl
    rw [az];refine af bQ ((i : Int), ()) rfl (ao ?_);refine ai (fun g2 => ?_) (fun g2 => ?_)
    · have g2 := OE g2
      have hne : ts' ≠ [] := by rw [ht]; intro hh; have := PI.1 hh; omega
      refine iV (w := 20) rq5 ?_;intro h6 k6 rq6;obtain ⟨i6, ⟨q6, m6, cq6, bQ6, vq6, hq6, hi6, hu6⟩, ht6⟩ := rq6;have bQ6 : bf h6 h1.size 292 [.slice q6 m6 cq6, .int .i64 (i6 : Int), .int .i64 d', .int .i64 ((20 : Nat) : Int)] := bQ6;refine af bQ6 (((20 : Nat) : Int), ()) rfl (ao ?_);refine aX rfl ?_;refine af bQ6 (((20 : Nat) : Int), ()) rfl (ao ?_);refine ap (b15.an k6 (by simp; omega)) rfl aj ?_;intro h7 b7 k7 z7;have b7 : bf h7 h.size 94 [.slice none 0 0, .int .u32 0] := b7;have bQ7 := bQ6.an k7 (by simp; omega);refine ⟨⟨bQ7.cells _ rfl, trivial⟩, ?_⟩;refine af b7 ((none, 0, 0), (0 : Int), ()) rfl ?_;have he : bL ts = .error 20 := by unfold bL; rw [hok]; simp only; rw [OG hne]
      refine ⟨Ch.trans (Ch.trans e05 k6 (fun j hj hl => by simp at hj; omega)) k7 (fun j hj hl => by simp at hj; omega), ?_⟩;rw [he]
    · have g2 := OF g2
      have hnil : ts' = [] := by rw [ht]; exact OW ae
      refine af bQ ((0 : Int), ()) rfl (ao ?_);refine aW rfl ?_;exact good h5 b5 b15 s5 e05 (by unfold bL; rw [hok]; simp only; rw [OH hnil])
  · have g1 : ¬ e' = 0 := by have : ¬ (e' : Int) = 0 := by simpa using g1
                             omega
    have he : bL ts = .error e' := by
      unfold bL;revert post;cases nw 32 ts with
      | error e => rintro ⟨rfl, h0, _⟩; rfl
      | ok z => obtain ⟨y, r⟩ := z; rintro ⟨h0, _⟩; exact absurd h0 g1
    refine af bQ ((e' : Int), ()) rfl (ao ?_);refine aX (by simpa using g1) ?_;exact bad h5 ⟨q, m, cq, _, _, bQ⟩ b15 e05 he
def MG:(Tryz.prog.info? 236).map (fun i=>(i.zero,i.size,i.bytes))=some (some (.agg #[.int .i64 0,.string ⟨#[]⟩,.int .u32 0,.int .i64 0]),4,40):=aB
def MS:(Tryz.prog.info? 233).map (fun i=>(i.zero,i.size,i.bytes))=some (some (.slice none 0 0),1,24):=aB
def KV:Tryz.prog.underlying 189=some (.slice 233):=aB
def M7:Tryz.prog.underlying 233=some (.slice 236):=aB
abbrev B':List fX:=[(false,[.int .i64]),(false,[.int .i64]),(false,[.int .i64]),(false,[.slice 0])]
def NF (n k1 g7:Nat) (us:List Tok) (lb op:XA) (h:Hp) (x:qu (flat B')) (m:Nat) (h':Hp):Prop :=
 ∃ (i:Nat) (dn:List In) (cu:In) (pa:Option XC) (ca:Nat),x.2.2.1=((k1+i:Nat):Int)/\i<=us.length/\m=us.length-i/\Ch [g7] h h'/\bf h' g7 191 [.string lb,.string op,.slice pa dn.length ca]/\eY h' h.size 233 236 pa ca dn /\
  x.2.2.2.1=(cu.p,cu.l,cu.c)/\SL h' h.size 236 4 cu.p cu.l cu.c (cu.ts.map enc)/\(∀ j,j∈aE cu.p->j∉aE pa)/\(∀ a,a∈dn->∀ j,j∈aE a.p->j∉aE cu.p) /\
  eN n us [] []=eN n (us.drop i) (dn.map In.ts) cu.ts/\dn.length<=i/\cu.ts.length<=i
def F3 (s:XA) (h:Hp) (hs:s.size<=2^40):HC Tryz.prog 102 #[.string s] h (qX 233 236 s h):=by
 refine ba (args:=[.string s]) mixed Tryz.func102 aB (mI s) ?_;unfold jE cv bN dH bW aN aS aR aH aZ av aw aI bh aQ bZ gK;refine bm ?_;intro h1 b1 e1 z1;refine aK (Du s h1 hs) ?_;rintro _ h2 ⟨p2,l3,l4,rfl,sl,e2⟩;refine ⟨((p2,l3,l4),((eh s).2.1:Int),((eh s).2.2:Int),()),rfl,?_⟩;dsimp only [lW,ix,flat,nA,cA];have b2:=b1.an e2 aj;have e12:=e1.trans e2;have hlen:=yO s;have hz2:=e2.size;have hE:∀ {hh h':Hp},Ext h hh->Ch [h.size] hh h'->Ext h h':=fun e k=>Ch.trans e k (fun i hi hl=>by simp at hi; omega)
 refine ai (fun g1=>?_) (fun g1=>?_)
 ·have g1:((eh s).2.2:Int)≠0:=by simpa using g1
  have hp:bi s=(gX,(eh s).2.1,(eh s).2.2):=by unfold bi; rw [OH ae]
  refine ap b2 rfl aj ?_;intro h3 b3 k3 z3;have b3:bf h3 h.size 191 [.string ⟨#[]⟩,.string ⟨#[]⟩,.slice none 0 0]:=b3;refine af b3 ((⟨#[]⟩:XA),(⟨#[]⟩:XA),(none,0,0),()) rfl ?_;exact ⟨hE e12 k3,none,0,[],by rw [hp]; rfl,eY.nil _ _ _ _,by rw [hp]; rfl⟩
 have g1:((eh s).2.2:Int)=0:=by simpa using g1
 have hp:bi s=ga s.size (eh s).1:=by unfold bi; rw [OG ae]
 have vw:=sl.vw;have hblk:∀ i,i∈aE p2->h1.size<=i/\i<h2.size:=fun i hi=>sl.bH hi
 clear sl;generalize (eh s).1=ts at hp vw hlen;unfold qX;rw [hp];refine bm ?_;intro h3 b7 e3 z3;have hz1:=z1;have vw3:=vw.an e3 aj;have hl3:=vw.len;have hcap:=vw.cap;refine bG (cs:=[(false,[.int .i64])]) (fun y h'=>∃ (k:Nat) (lb:XA),y.1=(k:Int)/\k<=ts.length/\ga s.size ts=bS s.size lb (ts.drop k)/\bf h' h2.size 191 [.string lb,.string ⟨#[]⟩,.slice none 0 0]/\Ch [h2.size] h3 h') ?_ ?_
 ·have plain:∀ {L:Lp} {K:XB->Hp->Prop} {h':Hp},Ext h3 h'->FE ts=false->(T.again 0 [.int .i64 (0:Int)]) ((fun vs h'=>∃ y:qu (flat [(false,[.int .i64])]),vs=parts [(false,[.int .i64])] (gb _ y)/\∃ (k:Nat) (lb:XA),y.1=(k:Int)/\k<=ts.length/\ga s.size ts=bS s.size lb (ts.drop k)/\bf h' h2.size 191 [.string lb,.string ⟨#[]⟩,.slice none 0 0]/\Ch [h2.size] h3 h')::L) K h':=by
   intro L K h' e hlab;refine aO (cs:=[(false,[.int .i64])]) ((0:Int),()) rfl rfl ⟨0,⟨#[]⟩,rfl,ae,?_,b7.an e aj,e.mono aj⟩;unfold ga;rw [OG (by rw [hlab]; simp),Qb]
  refine ai (fun g2=>?_) (fun g2=>?_)
  ·have g2:=OE g2
   match ts,hl3 with
   | [],hl3=>simp at hl3; omega
   | [_],hl3=>simp at hl3; omega
   | t::u::r,hl3 =>
    obtain ⟨a,rfl,c0⟩:=vw3.cells 0 aj;obtain ⟨a',ha',c1⟩:=vw3.cells 1 aj;cases ha';have c0:bk h3 (a.add (0*4)) 0 (enc t):=c0;have c1:bk h3 (a.add (1*4)) 0 (enc u):=c1;refine aC ⟨ae,ae⟩ (au rfl (aG ((t.kind:Int),()) ⟨c0.1,trivial⟩ ?_));dsimp only [lW,ix,flat,nA,cA];refine ai (fun g3=>?_) (fun g3=>?_)
    ·have g3:(t.kind:Int)=1:=eq_of_beq g3;refine aC ⟨ae,ae⟩ (au rfl (aG ((u.kind:Int),u.text,(u.num:Int),(u.at_:Int),()) c1 ?_));refine fL (xb u 58 h3) ?_;intro h4 e4;refine ai (fun g4=>?_) (fun g4=>?_)
     ·have c0':=bF e4 aj _ _ c0;refine aC ⟨ae,ae⟩ (au rfl (aG (t.text,()) ⟨c0'.2.1,trivial⟩ ?_));refine ap (b7.an e4 aj) rfl aj ?_;intro h5 b5 k5 z5;have e35:Ch [h2.size] h3 h5:=Ch.trans (e4.mono aj) k5 (fun i hi _=>hi);refine aO (cs:=[(false,[.int .i64])]) ((2:Int),()) rfl rfl ⟨2,t.text,rfl,aj,?_,b5,e35⟩;unfold ga;rw [OH (by show (decide (t.kind=1) && eE u 58)=true; rw [g4,OK ae]; rfl)] <;> rfl
     ·exact plain e4 (jb (by rintro _ _ _ hh h1 h2; injection hh with q1 q2; injection q2 with q2 _; subst q1 q2; rw [h2] at g4; cases g4))
    ·have g3:(t.kind:Int)≠1:=ON g3;exact plain (Ch.refl _ _) (jb (by rintro _ _ _ hh h1 h2; injection hh with q1 q2; subst q1; omega))
  ·have g2:=OF g2;exact plain (Ch.refl _ _) (jb (by rintro t u r rfl h1 h2; simp at hl3; omega))
 ·rintro ⟨n8,⟨⟩⟩ h4 ⟨k,lb,hk,hkle,hpl,b4,k4⟩;simp only at hk;subst hk;dsimp only [lW,ix,flat,nA,cA];rw [hpl];have v4:=vw3.an k4 (fun i hi=>by have:=(hblk i hi).2; simp; omega);have hne:h.size≠h2.size:=ae
  have a4:bf h4 h.size 191 [.string ⟨#[]⟩,.string ⟨#[]⟩,.slice none 0 0]:=(b2.an e3 aj).an k4 (by simp; omega);have e04:Ext h h4:=Ch.trans (e12.trans e3) k4 (fun i hi hl=>by simp at hi; omega);have hz4:=k4.size;have hz3:=e3.size;have hL:(ts.drop k).length=ts.length-k:=OR
  have out:∀ {hh:Hp} {L:Lp} {op:XA} {al:List In} {p:Option XC} {c nn:Nat},nn=al.length->(∃ v w u,bf hh h.size 191 [v,w,u])->bf hh h2.size 191 [.string lb,.string op,.slice p nn c]->Ext h hh->eY hh h4.size 233 236 p c al->bS s.size lb (ts.drop k)=(⟨lb,op,al.map In.ts⟩,0,0) ->
    (T.ah ⟨h2.size,0,none⟩ [.string,.string,.slice 233] <| fun (s11:XA) (s12:XA) (p13:Option XC) (l14:Nat) (l15:Nat) =>
     T.ak ⟨h.size,0,none⟩ [.string s11,.string s12,.slice p13 l14 l15] <|
     T.ah ⟨h.size,0,none⟩ [.string,.string,.slice 233] <| fun (s16:XA) (s17:XA) (p18:Option XC) (l19:Nat) (l20:Nat) =>
     T.ret (.tuple #[.agg #[.string s16,.string s17,.slice p18 l19 l20],.int .i64 (0:Int),.int .i64 (0:Int)])) L
     (fun v h'=>Ext h h'/\∃ p c al,v=.tuple #[.agg #[.string (bS s.size lb (ts.drop k)).1.label,.string (bS s.size lb (ts.drop k)).1.op,.slice p al.length c],.int .i64 (bS s.size lb (ts.drop k)).2.1,.int .i64 (bS s.size lb (ts.drop k)).2.2]/\eY h' h.size 233 236 p c al/\al.map In.ts=(bS s.size lb (ts.drop k)).1.args) hh:=by
   rintro hh L op al p c nn rfl ⟨v,w,u,bb⟩ b7' e A hpt;refine af b7' (lb,op,(p,al.length,c),()) rfl ?_;refine ap bb rfl aj ?_;intro h' b' k' z';have b':bf h' h.size 191 [.string lb,.string op,.slice p al.length c]:=b';refine af b' (lb,op,(p,al.length,c),()) rfl ?_;rw [hpt];exact ⟨hE e k',p,c,al,rfl,(A.an k' (fun i hi=>by have:=(A.out.bH hi).1; simp; omega) (fun x hx i hi=>by have:=((A.lK x hx).bH hi).1; simp; omega)).mono ae,rfl⟩
  have refuse:∀ {hh:Hp} {L:Lp} {aa:Nat},(∃ v w u,bf hh h.size 191 [v,w,u])->Ext h hh->bS s.size lb (ts.drop k)=(gX,aa,20) ->
    (T.ak ⟨h.size,0,none⟩ [.string ⟨#[]⟩,.string ⟨#[]⟩,.slice none 0 0] <|
     T.ah ⟨h.size,0,none⟩ [.string,.string,.slice 233] <| fun (s16:XA) (s17:XA) (p18:Option XC) (l19:Nat) (l20:Nat) =>
     T.ret (.tuple #[.agg #[.string s16,.string s17,.slice p18 l19 l20],.int .i64 (aa:Int),.int .i64 (20:Int)])) L
     (fun v h'=>Ext h h'/\∃ p c al,v=.tuple #[.agg #[.string (bS s.size lb (ts.drop k)).1.label,.string (bS s.size lb (ts.drop k)).1.op,.slice p al.length c],.int .i64 (bS s.size lb (ts.drop k)).2.1,.int .i64 (bS s.size lb (ts.drop k)).2.2]/\eY h' h.size 233 236 p c al/\al.map In.ts=(bS s.size lb (ts.drop k)).1.args) hh:=by
   rintro hh L aa ⟨v,w,u,bb⟩ e hpt;refine ap bb rfl aj ?_;intro h' b' k' z';have b':bf h' h.size 191 [.string ⟨#[]⟩,.string ⟨#[]⟩,.slice none 0 0]:=b';refine af b' ((⟨#[]⟩:XA),(⟨#[]⟩:XA),(none,0,0),()) rfl ?_;rw [hpt];exact ⟨hE e k',none,0,[],rfl,eY.nil _ _ _ _,rfl⟩
  refine ai (fun g2=>?_) (fun g2=>?_)
  ·have g2:(k:Int)=(l3:Int):=eq_of_beq g2
   have:ts.drop k=[]:=OW ae
   exact out (al:=[]) rfl ⟨_,_,_,a4⟩ b4 e04 (eY.nil _ _ _ _) (by rw [this]; rfl)
  have g2:(k:Int)≠(l3:Int):=ON g2;have hklt:k<ts.length:=ae
  have hdr:ts.drop k=ts[k]::ts.drop (k+1):=OM hklt;obtain ⟨a,rfl,c0⟩:=v4.cells k hklt;have ab:=hblk a.block (by simp [aE]);have hus:(ts.drop (k+1)).length=ts.length-(k+1):=OR;have hget:∀ i (hi:i<(ts.drop (k+1)).length),bk h4 (a.add ((k+1+i)*4)) 0 (enc (ts.drop (k+1))[i]):=by
   intro i hi;obtain ⟨a',ha',hc⟩:=v4.cells (k+1+i) ae;cases ha';rw [List.getElem_drop];exact hc
  generalize ts[k]=t at c0 hdr;generalize ts.drop (k+1)=us at hdr hus hget;rw [show Int.toNat (k:Int)=k from ae];refine aC ⟨ae,ae⟩ (au rfl (aG ((t.kind:Int),()) ⟨c0.1,trivial⟩ ?_));dsimp only [lW,ix,flat,nA,cA];refine ai (fun g3=>?_) (fun g3=>?_)
  ·have g3:(t.kind:Int)≠1:=by simpa using g3
   have hpt:bS s.size lb (ts.drop k)=(gX,t.at_,20):=by rw [hdr]; simp only [bS]; rw [OH ae]
   refine aC ⟨ae,ae⟩ (au rfl (aG ((t.at_:Int),()) ⟨c0.2.2.2.1,trivial⟩ ?_));dsimp only [lW,ix,flat,nA,cA];refine ap a4 rfl aj ?_;intro h5 b5 k5 z5;have b5:bf h5 h.size 191 [.string ⟨#[]⟩,.string ⟨#[]⟩,.slice none 0 0]:=b5;have c5:=bF k5 (by rw [fh]; simp; omega) _ _ c0;refine ⟨⟨⟨c5.2.2.2.1,trivial⟩,trivial⟩,?_⟩;refine af b5 ((⟨#[]⟩:XA),(⟨#[]⟩:XA),(none,0,0),()) rfl ?_;rw [hpt];exact ⟨hE e04 k5,none,0,[],rfl,eY.nil _ _ _ _,rfl⟩
  have g3:(t.kind:Int)=1:=by simpa using g3
  have hpt:bS s.size lb (ts.drop k)=match gj s.size us with
    | .error a=>(gX,a,20)
    | .ok l=>(⟨lb,t.text,l⟩,0,0):=by rw [hdr]; simp only [bS]; rw [OG ae]; cases gj s.size us <;> rfl
  refine aC ⟨ae,ae⟩ (au rfl (aG (t.text,()) ⟨c0.2.1,trivial⟩ ?_));dsimp only [lW,ix,flat,nA,cA];rw [az];refine ap b4 rfl aj ?_;intro h5 b5 k5 z5;have b5:bf h5 h2.size 191 [.string lb,.string t.text,.slice none 0 0]:=b5;have a5:=a4.an k5 (by simp; omega);have e05:Ext h h5:=Ch.trans e04 k5 (fun i hi hl=>by simp at hi; omega);have hz5:=k5.size;have hget5:∀ i (hi:i<us.length),bk h5 (a.add ((k+1+i)*4)) 0 (enc us[i]):=fun i hi=>bF k5 (by rw [fh]; simp; omega) _ _ (hget i hi)
  have hw:IntKind.wrap .i64 ((k:Int)+1)=((k+1:Nat):Int):=by rw [wrap_i64 ae ae]; omega
  rw [hw];refine ai (fun g4=>?_) (fun g4=>?_)
  ·have g4:((k+1:Nat):Int)=(l3:Int):=eq_of_beq g4
   have:us=[]:=OQ ae
   refine out (al:=[]) rfl ⟨_,_,_,a5⟩ b5 e05 (eY.nil _ _ _ _) ?_;rw [hpt,this]; rfl
  have g4:((k+1:Nat):Int)≠(l3:Int):=ON g4;have hune:us≠[]:=fun hh=>by rw [hh] at hus; simp at hus; omega
  have hAA:gj s.size us=eN s.size us [] []:=by unfold gj; rw [OG hune]
  refine bJ (cs:=B') (NF s.size (k+1) h2.size us lb t.text h5) ((0:Int),(0:Int),((k+1:Nat):Int),(none,0,0),()) us.length rfl
   ⟨0,[],⟨none,0,0,[]⟩,none,0,rfl,ae,ae,Ch.refl _ _,b5,eY.nil _ _ _ _,rfl,SL.nil _ _ _ _,by simp [aE],aj,rfl,aj,aj⟩ ?_
  rintro ⟨n13,n14,n15,⟨p16,l17,l18⟩,⟨⟩⟩ m h6 ⟨i,dn,cu,pa,ca,hi,hile,rfl,k6,b6,A6,hcu,sc,d1,d2,hrec,hdn,hcl⟩;simp only at hi hcu;injection hcu with q1 q2
  injection q2 with q2 q3
  subst hi q1 q2 q3;dsimp only [B',lW,ix,flat,nA,cA];have a6:=a5.an k6 (by simp; omega);have e06:Ext h h6:=Ch.trans e05 k6 (fun j hj hl=>by simp at hj; omega);have hz6:=k6.size;have hcul:cu.l=cu.ts.length:=by rw [sc.1,OI]
  refine ai (fun g5=>?_) (fun g5=>?_)
  ·have g5:=OE g5;have hilt:i<us.length:=ae
   have c6:=bF k6 (by rw [fh]; simp; omega) _ _ (hget5 i hilt);have hdi:us.drop i=us[i]::us.drop (i+1):=OM hilt;rw [hdi] at hrec;generalize us[i]=x at c6 hrec;rw [show Int.toNat ((k+1+i:Nat):Int)=k+1+i from ae];refine aC ⟨ae,ae⟩ (au rfl (aG ((x.kind:Int),x.text,(x.num:Int),(x.at_:Int),()) c6 ?_));dsimp only [lW,ix,flat,nA,cA];refine bm ?_;intro h7 b7 e7 z7;refine ap b7 rfl aj ?_;intro h8 b8 k8 z8;have b8:bf h8 h6.size 236 (enc x):=b8;have e68:Ext h6 h8:=Ch.trans e7 k8 (fun j hj hl=>by simp at hj; omega);have hld:∀ {hh:Hp} {L:Lp} {K:XB->Hp->Prop} {kk:Int->XA->Int->Int->T},Ext h8 hh->kk x.kind x.text x.num x.at_ L K hh->T.ah (⟨h6.size,0,none⟩:XC) [.int .i64,.string,.int .u32,.int .i64] kk L K hh:=by
    intro hh L K kk e hk;exact af (b8.an e aj) ((x.kind:Int),x.text,(x.num:Int),(x.at_:Int),()) rfl hk
   refine bG (cs:=[(false,[.bool])]) (fun y h'=>y.1=(eE x 58 || (eE x 44 && decide (cu.ts=[])))/\Ext h8 h') ?_ ?_
   ·refine hld (Ch.refl _ _) ?_;refine fL (xb x 58 h8) ?_;intro h9 e9;refine ai (fun g6=>?_) (fun g6=>?_)
    ·exact aO (cs:=[(false,[.bool])]) (true,()) rfl rfl ⟨by rw [g6]; rfl,e9⟩
    ·refine hld e9 ?_;refine fL (xb x 44 h9) ?_;intro h10 e10;refine ai (fun g7=>?_) (fun g7=>?_)
     ·refine aO (cs:=[(false,[.bool])]) (((cu.l:Int)==0),()) rfl rfl ⟨?_,e9.trans e10⟩;show ((cu.l:Int)==0)=_;rw [g6,g7,P7,O3,hcul]
      by_cases hh:cu.ts=[]
      ·rw [hh]; rfl
      ·have:cu.ts.length≠0:=fun h0=>hh (OQ h0)
       rw [OL hh];simp only [beq_eq_false_iff_ne,ne_eq];omega
     ·exact aO (cs:=[(false,[.bool])]) (false,()) rfl rfl ⟨by rw [g6,g7]; rfl,e9.trans e10⟩
   ·rintro ⟨b25,⟨⟩⟩ h9 ⟨hb25,e9⟩;simp only at hb25;subst hb25;refine ao ?_;have e69:=e68.trans e9;have a9:=a6.an e69 aj;have b9:=b6.an e69 aj;have A9:=A6.an e69 aj aj;have s9:=sc.an e69 aj;have hz9:=e69.size;refine ai (fun g6=>?_) (fun g6=>?_)
    ·rw [az];refine af (b8.an e9 aj) ((x.at_:Int),()) rfl ?_;dsimp only [lW,ix,flat,nA,cA];have hA:bS s.size lb (ts.drop k)=(gX,x.at_,20):=by
      rw [hpt,hAA,hrec];simp only [eN];rw [OH g6]
     have hb8:=b8.an e9 aj;refine ap a9 rfl aj ?_;intro h10 b10 k10 z10;have b10:bf h10 h.size 191 [.string ⟨#[]⟩,.string ⟨#[]⟩,.slice none 0 0]:=b10;refine ⟨⟨(hb8.an k10 (by simp; omega)).cells _ rfl,trivial⟩,?_⟩;refine af b10 ((⟨#[]⟩:XA),(⟨#[]⟩:XA),(none,0,0),()) rfl ?_;rw [hA];exact ⟨hE (e06.trans e69) k10,none,0,[],rfl,eY.nil _ _ _ _,rfl⟩
    ·rw [show eN s.size (x::us.drop (i+1)) (dn.map In.ts) cu.ts=if eE x 44=true then eN s.size (us.drop (i+1)) (dn.map In.ts++[cu.ts]) [] else eN s.size (us.drop (i+1)) (dn.map In.ts) (cu.ts++[x]) by
      conv=>lhs; unfold eN
      rw [OG (by rw [g6]; simp)]] at hrec
     refine hld e9 ?_;refine fL (xb x 44 h9) ?_;intro h10 e10;have hw2:IntKind.wrap .i64 (((k+1+i:Nat):Int)+1)=((k+1+(i+1):Nat):Int):=by rw [wrap_i64 ae ae]; omega
     have e610:=e69.trans e10;have b10:=b9.an e10 aj;have A10:=A9.an e10 aj aj;have s10:=s9.an e10 aj;have k510:Ch [h2.size] h5 h10:=Ch.trans k6 e610 aj;have hz10:=k510.size;refine ai (fun g7=>?_) (fun g7=>?_)
     ·rw [OH g7] at hrec;rw [az];refine af b10 ((pa,dn.length,ca),()) rfl ?_;dsimp only [lW,ix,flat,nA,cA];refine fp (e:=233) (vs:=[.slice cu.p cu.l cu.c]) KV MS rfl ae ae aB rfl rfl A10.out hz10 ae ae ?_;intro p' c' h11 o11 k11 hp11;have b11:=b10.an k11 (fun hh=>by have:=(A10.out.bH hh).1; have:=b5.lt; omega);refine ap b11 rfl aj ?_;intro h12 b12 k12 z12;have A11:=A10.snoc (a:=cu) hz10 o11 k11 hp11 s10 d1 d2;have h2lt:=b5.lt;refine aY (cs:=B') (n13,n14,((k+1+(i+1):Nat):Int),(none,0,0),()) (us.length-(i+1)) rfl ae (by rw [hw2]; rfl) ?_;refine ⟨i+1,dn++[cu],⟨none,0,0,[]⟩,p',c',rfl,ae,rfl,?_,by rw [OX]; exact b12,A11.an k12 (fun j hj=>by have:=(A11.out.bH hj).1; simp; omega) (fun y hy j hj=>by have:=((A11.lK y hy).bH hj).1; simp; omega),rfl,SL.nil _ _ _ _,by simp [aE],by simp [aE],?_,by simp; omega,aj⟩
      ·exact Ch.trans (Ch.trans k510 k11 (fun j hj hl=>by have:=(A10.out.bH hj).1; omega)) k12 (fun j hj _=>hj)
      ·rw [hrec,OU]; rfl
     ·rw [OG (by rw [g7]; simp)] at hrec;refine hld (e9.trans e10) ?_;refine fp (e:=236) (vs:=enc x) M7 MG rfl ae ae aB rfl rfl s10 hz10 ae ae ?_;intro p7 c7 h11 o11 k11 hp11;have h2lt:=b5.lt;have hp':∀ j,j∈aE p7->j∈aE cu.p\/h10.size<=j:=by
       intro j hj;rcases hp11 with rfl | ⟨y,rfl,hy⟩
       ·exact .inl hj
       ·simp [aE] at hj; right; omega
      refine aY (cs:=B') (n13,n14,((k+1+(i+1):Nat):Int),(p7,cu.l+1,c7),()) (us.length-(i+1)) rfl ae (by rw [hw2]; rfl) ?_;refine ⟨i+1,dn,⟨p7,cu.l+1,c7,cu.ts++[x]⟩,pa,ca,rfl,ae,rfl,?_,b10.an k11 (fun hh=>by have:=(s10.bH hh).1; omega),A10.an k11 (fun j hj hh=>d1 j hh hj) (fun y hy j hj hh=>d2 y hy j hj hh),rfl,by rw [OU]; exact o11,?_,?_,hrec,ae,by simp; omega⟩
      ·exact Ch.trans k510 k11 (fun j hj hl=>by have:=(s10.bH hj).1; omega)
      ·intro j hj hh;rcases hp' j hj with h1 | h1
       ·exact d1 j h1 hh
       ·have:=(A10.out.bH hh).2; omega
      ·intro y hy j hj hh;rcases hp' j hh with h1 | h1
       ·exact d2 y hy j hj h1
       ·have:=((A10.lK y hy).bH hj).2; omega
  ·have g5:=OF g5;have hi:i=us.length:=ae
   subst hi;rw [PU] at hrec;have hA:gj s.size us=if cu.ts=[] then .error s.size else .ok (dn.map In.ts++[cu.ts]):=by
    rw [hAA,hrec] <;> rfl
   refine ai (fun g6=>?_) (fun g6=>?_)
   ·have g6:(cu.l:Int)=0:=eq_of_beq g6;refine refuse (aa:=s.size) ⟨_,_,_,a6⟩ e06 ?_;rw [hpt,hA,OH (OQ ae)]
   ·have g6:(cu.l:Int)≠0:=ON g6;rw [OG (fun hh=>by rw [hh] at hcul; simp at hcul; omega)] at hA;rw [hA] at hpt;rw [az];refine af b6 ((pa,dn.length,ca),()) rfl ?_;dsimp only [lW,ix,flat,nA,cA];refine fp (e:=233) (vs:=[.slice cu.p cu.l cu.c]) KV MS rfl ae ae aB rfl rfl A6.out hz6 ae ae ?_;intro p' c' h11 o11 k11 hp11;have h2lt:=b5.lt;have b11:=b6.an k11 (fun hh=>by have:=(A6.out.bH hh).1; omega);refine ap b11 rfl aj ?_;intro h12 b12 k12 z12;have A11:=A6.snoc (a:=cu) hz6 o11 k11 hp11 sc d1 d2;have A12:=A11.an k12 (fun j hj=>by have:=(A11.out.bH hj).1; simp; omega) (fun y hy j hj=>by have:=((A11.lK y hy).bH hj).1; simp; omega);have a12:=(a6.an k11 (fun hh=>by have:=(A6.out.bH hh).1; omega)).an k12 (by simp; omega);have e12':Ext h h12:=Ch.trans (Ch.trans e06 k11 (fun j hj hl=>by have:=(A6.out.bH hj).1; omega)) k12 (fun j hj hl=>by simp at hj; omega);refine out (op:=t.text) (al:=dn++[cu]) (nn:=dn.length+1) aj ⟨_,_,_,a12⟩ b12 e12' (A12.mono ae) ?_;rw [hpt,OU] <;> rfl
end Go.Sx
namespace Go.Sx.Ob
open Go.Proofs
variable {h':Hp}
def Eu {h:Hp} {p:Option XC} {l c:Nat} {ts:List Tok} (v:Vw h p l c ts) (z:Bool):pO Tryz.prog 162 [.slice p l c,.bool z] h (GF (dU z ts)):=by
 refine dk mixed Tryz.func162 aB (pz p l c z) ?_;unfold kT aS aZ aw aQ bZ;have hl:=v.len;refine ai (fun g=>?_) (fun g=>?_)
 ·have g:(l:Int)≠1:=by simpa using g
  refine ⟨?_,rfl⟩
  have:dU z ts=.error 20:=Kv ae
  rw [this] <;> rfl
 have g:(l:Int)=1:=by simpa using g
 obtain ⟨t,rfl⟩:=vk (show ts.length=1 from ae);obtain ⟨a,rfl,c0⟩:=v.cells 0 aj;have c0:bk h (a.add (0*4)) 0 (enc t):=c0;obtain ⟨q1,q2,_⟩:=fj c0;refine aC ⟨ae,ae⟩ (au rfl (aG ((t.kind:Int),()) q1 (ao ?_)));refine ai (fun r=>?_) (fun r=>?_)
 ·have r:¬ t.kind=1:=by
   have:¬ (t.kind:Int)=1:=by simpa using r
   omega
  refine ⟨?_,rfl⟩
  have:dU z [t]=.error 20:=OG (fun hh=>r hh.1)
  rw [this] <;> rfl
 have r:t.kind=1:=by
  have:(t.kind:Int)=1:=by simpa using r
  omega
 refine aC ⟨ae,ae⟩ (au rfl (aG (t.text,()) q2 (ao ?_)));refine qF (tG t.text h) ?_;refine ai (fun s=>?_) (fun s=>?_)
 ·have s:(fJ t.text.data.toList).2.2=false:=by simpa using s
  refine ⟨?_,rfl⟩
  have:dU z [t]=.error 20:=OG (fun hh=>by rw [s] at hh; simp at hh)
  rw [this] <;> rfl
 have s:(fJ t.text.data.toList).2.2=true:=by simpa using s
 refine ai (fun u=>?_) (fun u=>?_)
 ·have u:¬ (fJ t.text.data.toList).2.1=z:=by simpa using u
  refine ⟨?_,rfl⟩
  have:dU z [t]=.error 20:=OG (fun hh=>u hh.2.2)
  rw [this] <;> rfl
 have u:(fJ t.text.data.toList).2.1=z:=by simpa using u
 refine ⟨?_,rfl⟩
 have:dU z [t]=.ok (fJ t.text.data.toList).1:=OH ⟨r,s,u⟩
 rw [this] <;> rfl
def qN {h:Hp} {p:Option XC} {l c:Nat} {ts:List Tok} (v:Vw h p l c ts) (hs:∀ t,t∈ts->t.text.size<=9223372036854775807):pO Tryz.prog 166 [.slice p l c] h (Mv (jt ts)):=by
 refine dk mixed Tryz.func166 aB (mC p l c) ?_;unfold jq aN aZ aw bh;have hl:=v.len;refine ai (fun g=>?_) (fun g=>?_)
 ·have g:(l:Int)≠1:=by simpa using g
  refine ⟨?_,rfl⟩
  have:jt ts=.error 20:=Kv ae
  rw [this] <;> rfl
 have g:(l:Int)=1:=by simpa using g
 obtain ⟨t,rfl⟩:=vk (show ts.length=1 from ae);obtain ⟨a,rfl,c0⟩:=v.cells 0 aj;have c0:bk h (a.add (0*4)) 0 (enc t):=c0;obtain ⟨q1,q2,_⟩:=fj c0;refine aC ⟨ae,ae⟩ (au rfl (aG ((t.kind:Int),()) q1 (ao ?_)));refine ai (fun r=>?_) (fun r=>?_)
 ·have r:¬ t.kind=1:=by
   have:¬ (t.kind:Int)=1:=by simpa using r
   omega
  refine ⟨?_,rfl⟩
  have:jt [t]=.error 20:=OG (fun hh=>r hh.1)
  rw [this] <;> rfl
 have r:t.kind=1:=by
  have:(t.kind:Int)=1:=by simpa using r
  omega
 refine aC ⟨ae,ae⟩ (au rfl (aG (t.text,()) q2 (ao ?_)));refine aM (ve t.text h (hs t aj)) ?_;refine ai (fun s=>?_) (fun s=>?_)
 ·have s:bI t.text.data.toList=false:=by simpa using s
  refine ⟨?_,rfl⟩
  have:jt [t]=.error 20:=OG (fun hh=>by rw [s] at hh; simp at hh)
  rw [this] <;> rfl
 have s:bI t.text.data.toList=true:=by simpa using s
 refine aC ⟨ae,ae⟩ (au rfl (aG (t.text,()) q2 (ao ?_)));refine ⟨?_,rfl⟩
 have:jt [t]=.ok t.text:=OH ⟨r,s⟩
 rw [this] <;> rfl
def Kz {h:Hp} {p:Option XC} {l c:Nat} {ts:List Tok} (v:Vw h p l c ts) (hp:∀ i,i∈aE p->i<h.size) (w:Wf ts) (hts:ts.length<=2^40) (hz:∀ t,t∈ts->t.text.size<=9223372036854775807) (lo hi:Int) :
  HC Tryz.prog 163 #[.slice p l c,.int .i64 lo,.int .i64 hi] h fun r h'=>r=GF (fa lo hi ts)/\Ext h h':=by
 refine ba (args:=[.slice p l c,.int .i64 lo,.int .i64 hi]) mixed Tryz.func163 aB (kB p l c lo hi) ?_;unfold gN aS aH av aw aI aQ;refine aK (sV v hp w hts hz) ?_;rintro r h1 ⟨e1,hr⟩;unfold fa;cases hx:bL ts with
 | error e =>
  rw [hx] at hr;have hr:r=.tuple #[.agg #[.slice none 0 0,.int .u32 0],.int .i64 (e:Int)]:=hr;subst hr;have he:=dC w hx;refine ⟨((none,0,0),(0:Int),(e:Int),()),rfl,ao ?_⟩;refine bm ?_;intro h2 b2 e2 z2;refine ap b2 rfl aj ?_;intro h3 b3 k3 z3;refine aX (by simp; omega) ?_;exact ⟨rfl,e1.trans (Ch.trans e2 k3 (fun i hi hl=>by simp at hi; omega))⟩
 | ok x =>
  rw [hx] at hr;obtain ⟨p1,l1,c1,rfl,sl,gd⟩:=hr;refine ⟨((p1,l1,c1),(x.num:Int),(0:Int),()),rfl,ao ?_⟩;refine bm ?_;intro h2 b2 e2 z2;refine ap b2 rfl aj ?_;intro h3 b3 k3 z3;have b3:bf h3 h1.size 94 [.slice p1 l1 c1,.int .u32 (x.num:Int)]:=b3;have e3:Ext h h3:=e1.trans (Ch.trans e2 k3 (fun i hi hl=>by simp at hi; omega));refine aW rfl ?_;rw [az];refine af b3 ((x.num:Int),()) rfl (ao ?_);refine af b3 ((p1,l1,c1),()) rfl (ao ?_);rw [wrap32 gd.num];have hl1:l1=x.ay.length:=by rw [sl.1,OI]
  refine ai (fun g=>?_) (fun g=>?_)
  ·have g:=OE g;refine ⟨?_,e3⟩;rw [OH (.inl (fun hh=>by rw [hh] at hl1; simp at hl1; omega))] <;> rfl
  have g:=OF g;have hz:x.ay=[]:=OQ ae;refine ai (fun g=>?_) (fun g=>?_)
  ·have g:=OE g;refine ⟨?_,e3⟩;rw [OH (.inr (.inl g))] <;> rfl
  have g:=OF g;refine ai (fun g=>?_) (fun g=>?_)
  ·have g:=OE g;refine ⟨?_,e3⟩;rw [OH (.inr (.inr g))] <;> rfl
  have g':=OF g;refine ⟨?_,e3⟩;rw [OG (by rintro (q | q | q) <;> first | exact q hz | omega)] <;> rfl
def I6 (s:Nat) (h1:1<=s) (h2:s<=13) (h:Hp):pO Tryz.prog 161 [.int .i64 (s:Int)] h (.int .i64 ((dq s).length:Nat)):=by
 refine dk mixed Tryz.func161 aB (nY s) ?_;unfold j0
 have:s=1\/s=2\/s=3\/s=4\/s=5\/s=6\/s=7\/s=8\/s=9\/s=10\/s=11\/s=12\/s=13:=ae
 rcases this with rfl | rfl | rfl | rfl | rfl | rfl | rfl | rfl | rfl | rfl | rfl | rfl | rfl
 all_goals
  repeat (first | refine aX rfl ?_ | refine aW rfl ?_)
  exact ⟨rfl,rfl⟩
def Hf {nm:Nat->XA} {by_:Nat->Int} {k:Nat} (hk:k<43):(gM nm by_)[k*3+0]?=some (.string (nm k)):=by
 unfold gM;rw [qw _ 3 aj _ _ _ ae];simp [hk]
def Hs (s:XA) (h:Hp):HC Tryz.prog 133 #[.string s] h fun u h'=>u=.int .i64 (iM s:Nat)/\Ext h h':=by
 refine ba (args:=[.string s]) mixed Tryz.func133 aB (oh s) ?_;unfold j6 cv bN dH bW aS aQ;refine aK (HZ h) ?_;rintro _ h1 ⟨rfl,b1,e1⟩;refine ⟨((some ⟨h.size,0,none⟩,43,43),()),rfl,ao ?_⟩;refine bJ (cs:=[(false,[.int .i64]),(false,[.int .i64])]) (fun x n h'=>∃ k:Nat,x.2.1=(k:Int)/\k<=43/\n=43-k/\h1=h'/\kI y7 s.data.toList k=0) ((0:Int),(0:Int),()) 43 rfl ⟨0,rfl,ae,ae,rfl,rfl⟩ ?_;rintro ⟨n4,n5,⟨⟩⟩ n h2 ⟨k,hk,hk43,rfl,rfl,h0⟩;simp only at hk;subst hk;refine ao ?_;refine ai (fun q=>?_) (fun q=>?_)
 ·have q:(k:Int)<((43:Nat):Int):=OE q;have hlt:k<43:=ae
  refine aC ⟨ae,ae⟩ (au rfl ?_);rw [show Int.toNat (k:Int)=k from ae,az];refine af b1 (cR k,()) ?_ ?_
  ·show List.take 1 (List.drop (0+k*3) (gM cR dc))=[.string (cR k)]
   have:=Hf (nm:=cR) (by_:=dc) hlt
   rw [PQ,P4] at *;rw [List.take_one,List.head?_drop,this] <;> rfl
  refine ao ?_;have hn:=xi y7 s.data.toList k h0;have hw:IntKind.wrap .i64 ((k:Int)+1)=((k+1:Nat):Int):=by rw [wrap_i64 ae ae]; omega
  rw [ByteArray.toList_eq,ByteArray.toList_eq,hw];refine ai (fun r=>?_) (fun r=>?_)
  ·have r:y7 k=s.data.toList:=eq_of_beq r;rw [OH r] at hn;have hf:iM s=k+1:=by
    unfold iM;rw [yd _ _ 43 (k+1) ae ae,hn]
   refine ⟨?_,e1⟩;rw [hf]
  ·have r:¬ y7 k=s.data.toList:=ON r;rw [OG r] at hn;exact aY (cs:=[(false,[.int .i64]),(false,[.int .i64])]) (n4,((k+1:Nat):Int),()) (43-(k+1)) rfl ae rfl ⟨k+1,rfl,ae,rfl,rfl,hn⟩
 ·have q:¬ (k:Int)<((43:Nat):Int):=OF q
  have:k=43:=ae
  subst this;refine ⟨?_,e1⟩;unfold iM;rw [h0] <;> rfl
structure AH (h:Hp) (p:Option XC) (l:Nat) (al:List In):Prop where
 len:l=al.length
 cells:∀ k,(hk:k<al.length)->∃ a,p=some a/\bk h (a.add (k*1)) 0 al[k].val
 lK:∀ a,a∈al->Vw h a.p a.l a.c a.ts
 bH:∀ a,a∈al->∀ i,i∈aE a.p->i<h.size
 wf:∀ a,a∈al->Wf a.ts
 many:∀ a,a∈al->a.ts.length<=2^40
 ne:∀ a,a∈al->a.ts≠[]
 text:∀ a,a∈al->∀ t,t∈a.ts->t.text.size<=9223372036854775807
def AH.an {h:Hp} {p:Option XC} {l:Nat} {al:List In} (v:AH h p l al) (e:Ext h h'):AH h' p l al :=
 ⟨v.len,fun k hk=>by
  obtain ⟨a,ha,hc⟩:=v.cells k hk;exact ⟨a,ha,bF e aj _ _ hc⟩,fun a ha=>(v.lK a ha).an e aj,fun a ha i hi=>PE (v.bH a ha i hi) e.size,v.wf,v.many,v.ne,v.text⟩
def AH.of {h:Hp} {b:Nat} {te es:TypeId} {p:Option XC} {c:Nat} {al:List In} (A:eY h b te es p c al) (w:∀ a,a∈al->Wf a.ts/\a.ts.length<=2^40/\a.ts≠[]/\∀ t,t∈a.ts->t.text.size<=9223372036854775807):AH h p al.length al:=by
 refine ⟨rfl,fun k hk=>?_,fun a ha=>(A.lK a ha).vw,fun a ha i hi=>((A.lK a ha).bH hi).2,fun a ha=>(w a ha).1,fun a ha=>(w a ha).2.1,fun a ha=>(w a ha).2.2.1,fun a ha=>(w a ha).2.2.2⟩;obtain ⟨a,ha,hc⟩:=A.out.cells (i:=k) (by rw [OI]; exact hk);rw [O4] at hc;exact ⟨a,ha,hc⟩
def N9 (z s t:Bool) (h:Hp) (K:XB->Hp->Prop):aV Tryz.prog (Instr.typeAssert (.iface 253 (.agg #[.bool z,.bool s,.bool t])) 20 253 true) h K=K (.tuple #[.agg #[.bool z,.bool s,.bool t],.bool true]) h:=aB
def NK (lo hi:Int) (h:Hp) (K:XB->Hp->Prop):aV Tryz.prog (Instr.typeAssert (.iface 255 (.agg #[.int .i64 lo,.int .i64 hi])) 20 253 true) h K=K (.tuple #[.agg #[.bool false,.bool false,.bool false],.bool false]) h:=aB
def NY (lo hi:Int) (h:Hp) (K:XB->Hp->Prop):aV Tryz.prog (Instr.typeAssert (.iface 255 (.agg #[.int .i64 lo,.int .i64 hi])) 20 255 true) h K=K (.tuple #[.agg #[.int .i64 lo,.int .i64 hi],.bool true]) h:=aB
def N1 (p:Bool) (h:Hp) (K:XB->Hp->Prop):aV Tryz.prog (Instr.typeAssert (.iface 257 (.agg #[.bool p])) 20 253 true) h K=K (.tuple #[.agg #[.bool false,.bool false,.bool false],.bool false]) h:=aB
def N2 (p:Bool) (h:Hp) (K:XB->Hp->Prop):aV Tryz.prog (Instr.typeAssert (.iface 257 (.agg #[.bool p])) 20 255 true) h K=K (.tuple #[.agg #[.int .i64 0,.int .i64 0],.bool false]) h:=aB
def NP (p:Bool) (h:Hp) (K:XB->Hp->Prop):aV Tryz.prog (Instr.typeAssert (.iface 257 (.agg #[.bool p])) 20 257 true) h K=K (.tuple #[.agg #[.bool p],.bool true]) h:=aB
def wrap_i32 {n:Int} (h1:-2147483648<=n) (h2:n<2147483648):IntKind.wrap .i32 n=n:=by
 simp only [IntKind.wrap,IntKind.bits,IntKind.signed,Bool.true_and];split <;> rename_i hh
 ·have:=OE hh; omega
 ·have:¬ _:=fun h=>hh (OK h); omega
def Ld (n:Nat) (h:n<4294967296):-2147483648<=Bm n/\Bm n<2147483648:=by
 unfold Bm;split <;> omega
def E7 {lo hi n:Int} {ts:List Tok} (w:Wf ts) (h:fa lo hi ts=.ok n):-2147483648<=n/\n<2147483648:=by
 unfold fa at h;cases hx:bL ts with
 | error e=>rw [hx] at h; cases h
 | ok x =>
  rw [hx] at h;simp only at h;split at h
  ·cases h
  ·injection h with h
   rw [<- h];exact Ld _ (jn w hx).num
def ff {lo hi:Int} {ts:List Tok} {e:Nat} (w:Wf ts) (h:fa lo hi ts=.error e):e=20\/e=21:=by
 unfold fa at h;cases hx:bL ts with
 | error e' =>
  rw [hx] at h;injection h with h
  subst h;exact dC w hx
 | ok x =>
  rw [hx] at h;simp only at h;split at h
  ·injection h with h
   exact .inr h.symm
  ·cases h
def jI {z:Bool} {ts:List Tok} {e:Nat} (h:dU z ts=.error e):e=20:=by
 unfold dU at h;split at h
 ·split at h
  ·cases h
  ·injection h with h
   exact h.symm
 ·injection h with h
  exact h.symm
def Gk (h:Hp) (b0 B:Nat) (r:Except Nat cd) (u:XB) (h':Hp):Prop:=Ch [B] h h'/\match r with
 | .error e=>u=.int .i64 (e:Int)/\(e=20\/e=21)/\∃ xs,bf h' B 96 xs/\xs.length=10
 | .ok y=>u=.int .i64 0/\∃ p l c,bf h' B 96 (encI p l c y)/\SL h' b0 109 2 p l c (y.e.ay.map cB)
def B1 {h:Hp} {b0 B:Nat} {x:cd} {p:Option XC} {l c:Nat} (b:bf h B 96 (encI p l c x)) (s:SL h b0 109 2 p l c (x.e.ay.map cB)) (hb0:b0<=h.size) (hB:B<b0) (r:F1)
  {q:Option XC} {m d:Nat} {ts:List Tok} (v:Vw h q m d ts) (hq:∀ i,i∈aE q->i<h.size) (w:Wf ts) (hts:ts.length<=2^40) :
  HC Tryz.prog 125 #[.pointer (some ⟨B,0,none⟩),np r,.slice q m d] h (Gk h b0 B (cS x r ts)):=by
 have hBs:=b.lt;refine ba (args:=[.pointer (some ⟨B,0,none⟩),np r,.slice q m d]) mixed Tryz.func125 aB (sW _ _ q m d) ?_;unfold pd aS dh aZ av aJ aQ bZ;have hS:∀ {h1 h2:Hp},Ext h h1->Ch [B] h1 h2->SL h2 b0 109 2 p l c (x.e.ay.map cB):=fun e k=>(Sx.SL.bd s e aj).bd k (fun i hi hm=>by have:=(Sx.SL.bH s hi).1; simp at hm; omega)
 have hC:∀ {h1 h2:Hp},Ext h h1->Ch [B] h1 h2->Ch [B] h h2:=fun e k=>Ch.trans (e.mono aj) k (fun i hi _=>hi)
 cases r with
 | rP z s2 s3 =>
  show aV _ _ _ _;unfold np;rw [N9];refine ⟨(z,s2,s3,true,()),rfl,ao ?_⟩;refine aX rfl ?_;refine bm ?_;intro h1 b1 e1 z1;refine ap b1 rfl aj ?_;intro h2 b2 k2 z2;have b2:bf h2 h.size 253 [.bool z,.bool s2,.bool s3]:=b2;have e2:Ext h h2:=Ch.trans e1 k2 (fun i hi hl=>by simp at hi; omega);refine af b2 (z,()) rfl (ao ?_);have bB:=b.an e2 aj
  have st:∀ {L:Lp} (n e:Int) (y:cd) (o:Nat) (val:XB),fI val=true->o<10->(encI p l c x).set o val=encI p l c y->y.e=x.e->(∀ h',bf h' B 96 (encI p l c y)->Ch [B] h h'->SL h' b0 109 2 p l c (y.e.ay.map cB)->Gk h b0 B (cS x (.rP z s2 s3) ts) (.int .i64 e) h') ->
    (T.ak ⟨B,o,none⟩ [val] <| T.ret (.int .i64 e)) L (Gk h b0 B (cS x (.rP z s2 s3) ts)) h2:=by
   intro L n e y o val hpv ho kl hy hk;refine ap bB (by simp [hpv]) (by simp [encI]; omega) ?_;intro h3 b3 k3 z3;rw [show j8 (encI p l c x) o [val]=(encI p l c x).set o val from rfl,kl] at b3;exact hk h3 b3 (hC e2 k3) (by rw [hy]; exact hS e2 k3)
  cases hr:dU z ts with
  | error e =>
   have he:=jI hr;have hA:cS x (.rP z s2 s3) ts=.error e:=by unfold cS; simp only [hr]
   refine eZ (v:=GF (dU z ts)) (HN (v.an e2 aj) z) ((0:Int),(e:Int),()) (by rw [hr]; rfl) ?_;refine ao ?_;rw [az];refine af b2 (s3,()) rfl (ao ?_);have out:∀ {L:Lp} (o:Nat) (val:XB),fI val=true->o<10->(T.ak ⟨B,o,none⟩ [val] <| T.ret (.int .i64 (e:Int))) L (Gk h b0 B (cS x (.rP z s2 s3) ts)) h2:=by
    intro L o val hpv ho;refine ap bB (by simp [hpv]) (by simp [encI]; omega) ?_;intro h3 b3 k3 z3;refine ⟨hC e2 k3,?_⟩;rw [hA];exact ⟨rfl,.inl he,_,b3,by rw [jD]; rfl⟩
   refine ai (fun g=>?_) (fun g=>?_)
   ·refine au rfl ?_;rw [az,az];exact out 5 _ rfl ae
   ·rw [az];refine af b2 (s2,()) rfl (ao ?_);refine ai (fun g=>?_) (fun g=>?_)
    ·refine au rfl ?_;rw [az,az];exact out 4 _ rfl ae
    ·refine au rfl ?_;rw [az,az];exact out 3 _ rfl ae
  | ok n =>
   have hn:=lM hr;have hn8:0<=n/\n<8:=by
    refine ⟨hn.1,?_⟩
    have:=hn.2
    split at this <;> omega
   refine eZ (v:=GF (dU z ts)) (HN (v.an e2 aj) z) (n,(0:Int),()) (by rw [hr]; rfl) ?_;refine ao ?_;rw [az];refine af b2 (s3,()) rfl (ao ?_);have hA:cS x (.rP z s2 s3) ts=.ok (if s3 then dy x n else if s2 then gk x n else pG x n):=by unfold cS; simp only [hr]
   refine ai (fun g=>?_) (fun g=>?_)
   ·refine au rfl ?_;rw [az,az,wrap_i32 ae ae];refine st n 0 (dy x n) 5 _ rfl ae rfl rfl ?_;intro h' b' k' s';refine ⟨k',?_⟩;rw [hA,OH g];exact ⟨rfl,p,l,c,b',s'⟩
   ·rw [az];refine af b2 (s2,()) rfl (ao ?_);refine ai (fun g'=>?_) (fun g'=>?_)
    ·refine au rfl ?_;rw [az,az];refine st n 0 (gk x n) 4 _ rfl ae rfl rfl ?_;intro h' b' k' s';refine ⟨k',?_⟩;rw [hA,OG (by rw [g]; simp),OH g'];exact ⟨rfl,p,l,c,b',s'⟩
    ·refine au rfl ?_;rw [az,az];refine st n 0 (pG x n) 3 _ rfl ae rfl rfl ?_;intro h' b' k' s';refine ⟨k',?_⟩;rw [hA,OG (by rw [g]; simp),OG (by rw [g']; simp)];exact ⟨rfl,p,l,c,b',s'⟩
 | BQ lo hi =>
  show aV _ _ _ _;unfold np;rw [NK];refine ⟨(false,false,false,false,()),rfl,ao ?_⟩;refine aW rfl ?_;show aV _ _ _ _;rw [NY];refine ⟨(lo,hi,true,()),rfl,ao ?_⟩;refine aX rfl ?_;refine bm ?_;intro h1 b1 e1 z1;refine ap b1 rfl aj ?_;intro h2 b2 k2 z2;have b2:bf h2 h.size 255 [.int .i64 lo,.int .i64 hi]:=b2;have e2:Ext h h2:=Ch.trans e1 k2 (fun i hi hl=>by simp at hi; omega);refine af b2 (lo,()) rfl (ao ?_);rw [az];refine af b2 (hi,()) rfl (ao ?_);refine aK (qQ (v.an e2 aj) (fun i hi=>PE (hq i hi) e2.size) w hts lo hi) ?_;rintro _ h3 ⟨rfl,e3⟩;have e3:=e2.trans e3;have bB:=b.an e3 aj;cases hr:fa lo hi ts with
  | error e =>
   have he:=ff w hr;refine ⟨((0:Int),(e:Int),()),rfl,ao ?_⟩;refine au rfl ?_;rw [az,az];refine ap bB rfl (by simp [encI]) ?_;intro h4 b4 k4 z4;refine ⟨hC e3 k4,?_⟩;rw [show cS x (.BQ lo hi) ts=.error e by unfold cS; simp only [hr]];exact ⟨rfl,he,_,b4,by rw [jD]; rfl⟩
  | ok n =>
   have hn:=E7 w hr;refine ⟨(n,(0:Int),()),rfl,ao ?_⟩;refine au rfl ?_;rw [az,az,wrap_i32 hn.1 hn.2];refine ap bB rfl (by simp [encI]) ?_;intro h4 b4 k4 z4;refine ⟨hC e3 k4,?_⟩;rw [show cS x (.BQ lo hi) ts=.ok (dy x n) by unfold cS; simp only [hr]];exact ⟨rfl,p,l,c,b4,hS e3 k4⟩
 | val pool =>
  show aV _ _ _ _;unfold np;rw [N1];refine ⟨(false,false,false,false,()),rfl,ao ?_⟩;refine aW rfl ?_;show aV _ _ _ _;rw [N2];refine ⟨((0:Int),(0:Int),false,()),rfl,ao ?_⟩;refine aW rfl ?_;show aV _ _ _ _;rw [NP];refine ⟨(pool,true,()),rfl,ao ?_⟩;refine aX rfl ?_;refine bm ?_;intro h1 b1 e1 z1;refine ap b1 rfl aj ?_;intro h2 b2 k2 z2;have b2:bf h2 h.size 257 [.bool pool]:=b2;have e2:Ext h h2:=Ch.trans e1 k2 (fun i hi hl=>by simp at hi; omega);refine af b2 (pool,()) rfl (ao ?_);have bB:=b.an e2 aj
  have put:∀ {L:Lp} {us:List Tok} {h3:Hp} {u:XB},Wf us->cS x (.val pool) ts=(match bL us with | .error e=>.error e | .ok y=>.ok (nZ x y))->uS h2 (bL us) u h3 ->
    ∃ y:qu (flat [(true,[.slice 109,.int .u32]),(false,[.int .i64])]),u=rv true [(true,[.slice 109,.int .u32]),(false,[.int .i64])] (gb _ y)/\@lW (flat [(true,[.slice 109,.int .u32]),(false,[.int .i64])]) T (fun (p18:Option XC) (l19:Nat) (l20:Nat) (n21:Int) (n22:Int) =>
    T.aA (some (⟨B,0,none⟩:XC)) <| fun (a23:XC) =>
    T.ak (a23.add 7) [.slice p18 l19 l20,.int .u32 n21] <|
    T.ret (.int .i64 n22)) y L (Gk h b0 B (cS x (.val pool) ts)) h3:=by
   rintro L us h3 u hw hA ⟨e3,hu⟩;have e3:=e2.trans e3;cases hx:bL us with
   | error e =>
    rw [hx] at hu hA;have he:=dC hw hx;have hu:u=.tuple #[.agg #[.slice none 0 0,.int .u32 0],.int .i64 (e:Int)]:=hu;subst hu;refine ⟨((none,0,0),(0:Int),(e:Int),()),rfl,ao ?_⟩;refine au rfl ?_;rw [az];refine ap (b.an e3 aj) rfl (by simp [encI]) ?_;intro h4 b4 k4 z4;refine ⟨hC e3 k4,?_⟩;rw [hA];exact ⟨rfl,he,_,b4,by rw [jD]; rfl⟩
   | ok y =>
    rw [hx] at hu hA;obtain ⟨p5,l5,c5,rfl,sl,gd⟩:=hu;refine ⟨((p5,l5,c5),(y.num:Int),(0:Int),()),rfl,ao ?_⟩;refine au rfl ?_;rw [az];refine ap (b.an e3 aj) rfl (by simp [encI]) ?_;intro h4 b4 k4 z4;refine ⟨hC e3 k4,?_⟩;rw [hA];have hz:=e2.size;exact ⟨rfl,p5,l5,c5,b4,((Sx.SL.mono sl ae).bd k4 (fun i hi hm=>by have:=(Sx.SL.bH sl hi).1; simp at hm; omega))⟩
  have v2:=v.an e2 aj;have hq2:∀ i,i∈aE q->i<h2.size:=fun i hi=>PE (hq i hi) e2.size
  cases pool with
  | false =>
   refine aW rfl ?_;refine aK (kG v2 hq2 w hts) ?_;intro u h3 hu;refine put w ?_ hu;unfold cS rp;rfl
  | true =>
   refine aX rfl ?_;have hl:=v.len;have bad:cS x (.val true) ts=.error 20->Gk h b0 B (cS x (.val true) ts) (.int .i64 20) h2:=by
    intro hA;refine ⟨e2.mono aj,?_⟩;rw [hA];exact ⟨rfl,.inl rfl,_,bB,rfl⟩
   refine ai (fun g=>?_) (fun g=>?_)
   ·have g:m=0:=fe g;refine bad ?_
    have:ts=[]:=OQ ae
    subst this;rfl
   have g:¬ m=0:=fy g;cases ts with
   | nil=>simp at hl; omega
   | cons t r =>
    obtain ⟨a,rfl,c0⟩:=v2.cells 0 aj;have c0:bk h2 (a.add (0*4)) 0 (enc t):=c0;obtain ⟨q1,q2,_⟩:=fj c0;refine aC ⟨ae,ae⟩ (au rfl (aG ((t.kind:Int),()) q1 (ao ?_)));refine ai (fun g3=>?_) (fun g3=>?_)
    ·have g3:¬ t.kind=3:=by
      have:¬ (t.kind:Int)=3:=by simpa using g3
      omega
     refine bad ?_
     have:eE t 61=false:=by unfold eE; rw [Pd g3]; rfl
     unfold cS rp;simp [this]
    have g3:t.kind=3:=by
     have:(t.kind:Int)=3:=by simpa using g3
     omega
    refine aC ⟨ae,ae⟩ (au rfl (aG (t.text,()) q2 (ao ?_)));have hs:(ByteArray.toList t.text==[({ toBitVec:=61#8 }:UInt8)])=eE t 61:=by
     unfold eE;rw [g3,ByteArray.toList_eq] <;> rfl
    rw [hs];refine ai (fun g4=>?_) (fun g4=>?_)
    ·have g4:eE t 61=false:=by simpa using g4
     refine bad ?_;unfold cS rp;simp [g4]
    have g4:eE t 61=true:=by simpa using g4
    refine aC ⟨ae,by simp at hl; omega,by have:=v.cap; omega⟩ ?_;have vd:=v2.drop (k:=1) (by simp at hl; omega);refine aK (args:=[.slice _ _ _]) (kG (ts:=r) (p:=if d=1 then some a else Option.map (fun a=>Addr.add a 4) (some a)) (l:=m-1) (c:=d-1) vd ?_ w.tail (by simp at hts; omega)) ?_
    ·intro i hi;rw [show aE (if d=1 then some a else Option.map (fun a=>Addr.add a 4) (some a))=aE (some a) from kD _ _ _ _] at hi;exact hq2 i hi
    ·intro u h3 hu;refine put w.tail ?_ hu;unfold cS rp;simp only [g4,if_true]
     all_goals (cases bL r <;> rfl)
def GZ {x:cd} {r:F1} {ts:List Tok} {e:Nat} (w:Wf ts) (h:cS x r ts=.error e):e=20\/e=21:=by
 unfold cS at h;cases r with
 | rP z s t =>
  simp only at h;cases hr:dU z ts with
  | error e' =>
   rw [hr] at h;injection h with h
   subst h;exact .inl (jI hr)
  | ok n=>rw [hr] at h; cases h
 | BQ lo hi =>
  simp only at h;cases hr:fa lo hi ts with
  | error e' =>
   rw [hr] at h;injection h with h
   subst h;exact ff w hr
  | ok n=>rw [hr] at h; cases h
 | val p =>
  simp only at h;cases hr:rp p ts with
  | error e' =>
   rw [hr] at h;injection h with h
   subst h;unfold rp at hr;split at hr
   ·exact dC w hr
   ·split at hr
    ·injection hr with hr
     exact .inl hr.symm
    ·split at hr
     ·exact dC w.tail hr
     ·injection hr with hr
      exact .inl hr.symm
  | ok n=>rw [hr] at h; cases h
def HR (h:Hp) (r:Except Nat cd) (u:XB) (h':Hp):Prop:=Ext h h'/\match r with
 | .error e=>u=.tuple #[sT none 0 0 (dA 0),.int .i64 (e:Int)]
 | .ok y=>∃ p l c,u=.tuple #[sT p l c y,.int .i64 0]/\SL h' h.size 109 2 p l c (y.e.ay.map cB)
def zI:List XB:=[.int .i64 (0:Int),.string ⟨#[]⟩,.int .i64 (0:Int),.int .i64 (0:Int),.int .i64 (0:Int),.int .i32 (0:Int),.int .i64 (0:Int),.slice none 0 0,.int .u32 (0:Int),.int .i64 (0:Int)]
def Kf {h:Hp} (t:Bs h) {op:Nat} (h1:1<=op) (h2:op<=43) {p:Option XC} {l c:Nat} {al:List In} (v:AH h p l al) (hal:al.length<=2^40) :
  HC Tryz.prog 99 #[.int .i64 (op:Int),.slice p l c] h (HR h (eV (op:Int) (al.map In.ts))):=by
 refine ba (args:=[.int .i64 (op:Int),.slice p l c]) mixed Tryz.func99 aB (yp op p l c) ?_;unfold vO cv bN dH bW cU aS av aw aI bh aQ bZ;refine bm ?_;intro g1 b1 e1 z1;refine aK (EW (t.an e1 aj) (op:Int) ae ae) ?_;rintro _ g2 ⟨s,b,rfl,e2⟩;refine ⟨(s,b,(dB (op:Int):Int),decide (dB (op:Int)≠0),()),rfl,ao ?_⟩;refine bm ?_;intro g3 b3 e3 z3;refine ap b3 rfl aj ?_;intro g4 b4 k4 z4;have b4:bf g4 g2.size 158 [.string s,.int .u8 b,.int .i64 (dB (op:Int):Int)]:=b4;have e24:Ext g2 g4:=Ch.trans e3 k4 (fun i hi hl=>by simp at hi; omega);have e04:Ext h g4:=(e1.trans e2).trans e24;rw [az];refine af b4 ((dB (op:Int):Int),()) rfl (ao ?_);refine aK (Dr (dB (op:Int)) g4) ?_;rintro _ g5 ⟨pr,cr,rfl,sr,e5⟩;refine ⟨((pr,(dq (dB (op:Int))).length,cr),()),rfl,ao ?_⟩;have e05:=e04.trans e5;have b1:bf g5 h.size 96 zI:=((b1.an e2 aj).an e24 aj).an e5 aj;have hl:=v.len
 have out:∀ {L:Lp} {gg:Hp} {e:Nat},Ext h gg->(∃ xs,bf gg h.size 96 xs/\xs.length=10)->eV (op:Int) (al.map In.ts)=.error e ->
   (T.ak ⟨h.size,0,none⟩ zI <|
   T.ah ⟨h.size,0,none⟩ [.int .i64,.string,.int .i64,.int .i64,.int .i64,.int .i32,.int .i64,.slice 109,.int .u32,.int .i64] <| fun (n12:Int) (s13:XA) (n14:Int) (n15:Int) (n16:Int) (n17:Int) (n18:Int) (p19:Option XC) (l20:Nat) (l21:Nat) (n22:Int) (n23:Int) =>
   T.ret (.tuple #[.agg #[.int .i64 n12,.string s13,.int .i64 n14,.int .i64 n15,.int .i64 n16,.int .i32 n17,.int .i64 n18,.slice p19 l20 l21,.int .u32 n22,.int .i64 n23],.int .i64 (e:Int)])) L (HR h (eV (op:Int) (al.map In.ts))) gg:=by
  rintro L gg e eg ⟨xs,bx,hx⟩ hA;refine ap bx rfl (by rw [hx]; simp [zI]) ?_;intro g' b' k' z';rw [qZ _ _ _ (by rw [hx]; simp [zI])] at b';have hd:xs.drop 10=[]:=Pp ae;have b':bf g' h.size 96 zI:=by simpa [zI,hx,hd] using b'
  refine af b' ((0:Int),(⟨#[]⟩:XA),(0:Int),(0:Int),(0:Int),(0:Int),(0:Int),(none,0,0),(0:Int),(0:Int),()) rfl ?_;refine ⟨Ch.trans eg k' (fun i hi hl=>by simp at hi; omega),?_⟩;rw [hA] <;> rfl
 refine ai (fun q=>?_) (fun q=>?_)
 ·have q:¬ (dq (dB (op:Int))).length=l:=by
   have:¬ ((dq (dB (op:Int))).length:Int)=l:=by simpa using q
   omega
  exact out e05 ⟨_,b1,rfl⟩ (by unfold eV; rw [OH (by rw [OI]; omega)])
 have q:(dq (dB (op:Int))).length=l:=by
  have:((dq (dB (op:Int))).length:Int)=l:=by simpa using q
  omega
 have hcode:eV (op:Int) (al.map In.ts)=dK (ef (op:Int)) (dq (dB (op:Int))) (al.map In.ts):=by
  unfold eV;rw [OG (by rw [OI]; omega)]
 refine bm ?_;intro g6 b6 e6 z6;refine ap b6 rfl aj ?_;intro g7 b7 k7 z7;have b7:bf g7 g5.size 96 (encI none 0 0 (ef (op:Int))):=b7;have e57:Ext g5 g7:=Ch.trans e6 k7 (fun i hi hl=>by simp at hi; omega);have e07:=e05.trans e57;have b17:=b1.an e57 aj;have sr7:=sr.bd e57 aj;have hz5:=e05.size;have hlt1:=b1.lt
 refine bJ (cs:=[(false,[.int .i64]),(false,[.int .i64])]) (fun x n h'=>∃ (k:Nat) (y:cd),x.2.1=(k:Int)/\k<=l/\n=l-k/\Ext g7 h'=Ext g7 h'/\Ch [g5.size] g7 h'/\dK (ef (op:Int)) (dq (dB (op:Int))) (al.map In.ts)=dK y ((dq (dB (op:Int))).drop k) ((al.map In.ts).drop k) /\
   ∃ p' l' c',bf h' g5.size 96 (encI p' l' c' y)/\SL h' (g5.size+1) 109 2 p' l' c' (y.e.ay.map cB)) ((0:Int),(0:Int),()) l rfl ⟨0,_,rfl,ae,ae,rfl,Ch.refl _ _,rfl,none,0,0,b7,SL.nil _ _ _ _⟩ ?_
 rintro ⟨n13,n14,⟨⟩⟩ n g8 ⟨k,y,hk,hkl,rfl,_,k8,hcl,p',l',c',b8,s8⟩;simp only at hk;subst hk;refine ao ?_;have e58:Ext g5 g8:=Ch.trans e57 k8 (fun i hi hl=>by simp at hi; omega);have e08:=e05.trans e58;have hz7:g7.size=g5.size+1:=by rw [z7,z6]
 refine ai (fun r=>?_) (fun r=>?_)
 ·have r:=OE r;have hkr:k<(dq (dB (op:Int))).length:=ae
  have hka:k<al.length:=ae
  obtain ⟨ar,har,hcr⟩:=(sr.bd e58 aj).cells (i:=k) (by rw [OI]; exact hkr);rw [O4] at hcr;obtain ⟨aa,haa,hca⟩:=(v.an e08).cells k hka;refine aC ⟨ae,ae⟩ (au har ?_);rw [show Int.toNat (k:Int)=k from ae];refine aG (np ((dq (dB (op:Int)))[k]),()) hcr (ao ?_);refine aC ⟨ae,ae⟩ (au haa ?_);have hmem:al[k]∈al:=O2 hka;have hdr:(dq (dB (op:Int))).drop k=(dq (dB (op:Int)))[k]::(dq (dB (op:Int))).drop (k+1):=OM hkr;have hda:(al.map In.ts).drop k=al[k].ts::(al.map In.ts).drop (k+1):=by
   rw [OM (by rw [OI]; exact hka),O4]
  rw [hdr,hda] at hcl;simp only [dK] at hcl;generalize (dq (dB (op:Int)))[k]=rr at hcl ⊢;generalize al[k]=a at hcl hca hmem ⊢;refine aG ((a.p,a.l,a.c),()) hca (ao ?_);have hz8:g7.size<=g8.size:=k8.size;refine aK (B1 b8 s8 ae ae rr ((v.an e08).lK a hmem) ((v.an e08).bH a hmem) (v.wf a hmem) (v.many a hmem)) ?_;rintro u g9 ⟨k9,hu⟩;have e59:Ext g5 g9:=Ch.trans e58 k9 (fun i hi hl=>by simp at hi; omega);cases hA:cS y rr a.ts with
  | error e =>
   rw [hA] at hu hcl;obtain ⟨rfl,he,xs,bx,hx⟩:=hu;refine ⟨((e:Int),()),rfl,ao ?_⟩;refine aX (by simp; omega) ?_;exact out (e05.trans e59) ⟨_,b1.an e59 aj,rfl⟩ (by rw [hcode,hcl])
  | ok y' =>
   rw [hA] at hu hcl;obtain ⟨rfl,p2,l2,c2,b9,s9⟩:=hu;refine ⟨((0:Int),()),rfl,ao ?_⟩;refine aW rfl ?_;have hw:IntKind.wrap .i64 ((k:Int)+1)=((k+1:Nat):Int):=by rw [wrap_i64 ae ae]; omega
   refine aY (cs:=[(false,[.int .i64]),(false,[.int .i64])]) (n13,((k+1:Nat):Int),()) (l-(k+1)) rfl ae (by rw [hw]; rfl) ⟨k+1,y',rfl,ae,rfl,rfl,Ch.trans k8 k9 (fun i hi _=>hi),hcl,p2,l2,c2,b9,s9⟩
 ·have r:=OF r;have hkl2:k=l:=ae
  have hcl2:eV (op:Int) (al.map In.ts)=.ok y:=by
   rw [hcode,hcl,Pp ae] <;> rfl
  refine af b8 (y.kind,y.name,y.inst.op,y.inst.a,y.inst.b,y.inst.n,y.inst.form,(p',l',c'),(y.e.num:Int),y.n,()) rfl (ao ?_);refine ap (b1.an e58 aj) rfl (by simp [zI]) ?_;intro g9 b9 k9 z9;have b9:bf g9 h.size 96 (encI p' l' c' y):=b9;refine af b9 (y.kind,y.name,y.inst.op,y.inst.a,y.inst.b,y.inst.n,y.inst.form,(p',l',c'),(y.e.num:Int),y.n,()) rfl ?_;refine ⟨Ch.trans e08 k9 (fun i hi hl=>by simp at hi; omega),?_⟩;rw [hcl2];refine ⟨p',l',c',rfl,(Sx.SL.mono s8 ae).bd k9 (fun i hi hm=>by have:=(Sx.SL.bH s8 hi).1; simp at hm; omega)⟩
def vi (u:cH × cd):List XB:=encI u.1.p u.1.l u.1.c u.2
structure dO (h:Hp) (b:Nat) (p:Option XC) (l c:Nat) (us:List (cH × cd)):Prop where
 out:SL h b 96 10 p l c (us.map vi)
 own:∀ u,u∈us->SL h b 109 2 u.1.p u.1.l u.1.c (u.2.e.ay.map cB)
 po:∀ u,u∈us->∀ i,i∈aE u.1.p->i∉aE p
 pp:us.Pairwise fun u v=>∀ i,i∈aE u.1.p->i∉aE v.1.p
def dO.len {h:Hp} {b:Nat} {p:Option XC} {l c:Nat} {us:List (cH × cd)} (A:dO h b p l c us):l=us.length:=by rw [A.out.1,OI]
def dO.an {ws:List Nat} {h:Hp} {b:Nat} {p:Option XC} {l c:Nat} {us:List (cH × cd)} (A:dO h b p l c us) (k:Ch ws h h') (hw:∀ i,i∈ws->i<h.size->i<b):dO h' b p l c us :=
 ⟨SL.AE A.out k hw,fun u hu=>SL.AE (A.own u hu) k hw,A.po,A.pp⟩
def dO.mono {h:Hp} {b b':Nat} {p:Option XC} {l c:Nat} {us:List (cH × cd)} (A:dO h b p l c us) (hb:b'<=b):dO h b' p l c us :=
 ⟨Sx.SL.mono A.out hb,fun u hu=>Sx.SL.mono (A.own u hu) hb,A.po,A.pp⟩
def dO.nil (h:Hp) (b:Nat):dO h b none 0 0 []:=⟨SL.nil _ _ _ _,aj,aj,List.Pairwise.nil⟩
def dO.snoc {h:Hp} {b:Nat} {p p':Option XC} {l c c':Nat} {us:List (cH × cd)} (A:dO h b p l c us) {u:cH × cd} (o:SL h' b 96 10 p' (l+1) c' (us.map vi++[vi u])) (k:Ch (aE p) h h') (hp:p'=p\/∃ x,p'=some x/\h.size<=x.block)
  (ha:SL h b 109 2 u.1.p u.1.l u.1.c (u.2.e.ay.map cB)) (h1:∀ i,i∈aE u.1.p->i∉aE p) (h2:∀ x,x∈us->∀ i,i∈aE x.1.p->i∉aE u.1.p):dO h' b p' (l+1) c' (us++[u]):=by
 have hp':∀ i,i∈aE p'->i∈aE p\/h.size<=i:=by
  intro i hi;rcases hp with rfl | ⟨x,rfl,hx⟩
  ·exact .inl hi
  ·simp [aE] at hi; right; omega
 refine ⟨by rw [OU]; exact o,fun x hx=>?_,fun x hx i hi hh=>?_,P3.2 ⟨A.pp,aj,fun x hx y hy i hi=>?_⟩⟩
 ·rcases OS.1 hx with hx | hx
  ·exact Sx.SL.bd (A.own x hx) k fun i hi=>A.po x hx i hi
  ·have hx:x=u:=by simpa using hx
   subst hx;exact Sx.SL.bd ha k h1
 ·rcases OS.1 hx with hx | hx
  ·rcases hp' i hh with h' | h'
   ·exact A.po x hx i hi h'
   ·have:=(Sx.SL.bH (A.own x hx) hi).2; omega
  ·have hx:x=u:=by simpa using hx
   subst hx;rcases hp' i hh with h' | h'
   ·exact h1 i hi h'
   ·have:=(Sx.SL.bH ha hi).2; omega
 ·have hy:y=u:=by simpa using hy
  subst hy;exact h2 x hx i hi
def B3:Tryz.prog.underlying 23=some (.slice 96):=aB
def yN:(Tryz.prog.info? 96).map (fun i=>(i.zero,i.size,i.bytes))=some (some (.agg zI.toArray),10,104):=aB
def GP (p:Option XC) (l c:Nat) (x:cd):Instr.fill (fun j=>some (j*10,10)) ((Array.range (1*10)).map ((Value.agg zI.toArray).cells[· % (Value.agg zI.toArray).cells.size]!)) [(0,.agg (encI p l c x).toArray)]=some (encI p l c x).toArray:=aB
def SL.My {h:Hp} {b g:Nat} {xs:List XB} (bx:bf h g 96 xs) (hb:b<=g) (hn:xs.length=10):SL h b 96 10 (some ⟨g,0,none⟩) 1 1 [xs]:=by
 refine ⟨rfl,by simpa using hn,g,[],[],rfl,hb,⟨OP _,ae⟩,?_,aj⟩;simpa using bx
section
variable {L:Lp} {K:XB->Hp->Prop} {h:Hp}
def fW {k:Option XC->Nat->Nat->T} {p:Option XC} {l c:Nat} {x:cd} (hk:∀ h',SL h' h.size 96 10 (some ⟨h.size,0,none⟩) 1 1 [encI p l c x]->Ext h h'->h'.size=h.size+1->k (some ⟨h.size,0,none⟩) 1 1 L K h') :
  T.fb Tryz.prog (Instr.buildSlice 23 1 #[(0,.agg (encI p l c x).toArray)]) false [(false,[.slice 0])] k L K h:=by
 refine eM B3 yN ae ae (GP p l c x) ?_;intro h' b e z;exact hk h' (SL.My b (OP _) rfl) e z
end
def Lh (k:Int) (a:cH) (s:XA) (b:cH) (n sec:Int):XB:=.agg #[.int .i64 k,a.v,.string s,b.v,.int .u32 n,.int .i64 sec]
structure j5 (h:Hp) (b:Nat) (t:jM) (sl:cH) (us:List (cH × cd)) (se:cH):Prop where
 sf:dO h b sl.p sl.l sl.c us
 eq:us.map (·.2)=t.items
 e:SL h b 109 2 se.p se.l se.c (t.e.ay.map cB)
 Oh:us=[]\/se.p=none
def j5.an {ws:List Nat} {h h':Hp} {b:Nat} {t:jM} {sl:cH} {us:List (cH × cd)} {se:cH} (A:j5 h b t sl us se) (k:Ch ws h h') (hw:∀ i,i∈ws->i<h.size->i<b):j5 h' b t sl us se :=
 ⟨A.sf.an k hw,A.eq,SL.AE A.e k hw,A.Oh⟩
def j5.mono {h:Hp} {b b':Nat} {t:jM} {sl:cH} {us:List (cH × cd)} {se:cH} (A:j5 h b t sl us se) (hb:b'<=b):j5 h b' t sl us se:=⟨A.sf.mono hb,A.eq,Sx.SL.mono A.e hb,A.Oh⟩
def y9 (k:Nat) (args:List (List Tok)):Except Nat (List cd):=if args=[] then .error 20 else cL k args
def NV (h:Hp) (r:Except Nat (List cd)) (u:XB) (h':Hp):Prop:=Ext h h'/\match r with
 | .error e=>u=.tuple #[.slice none 0 0,.int .i64 (e:Int)]/\(e=20\/e=21)
 | .ok l=>∃ p n c us,u=.tuple #[.slice p n c,.int .i64 0]/\dO h' h.size p n c us/\us.map (·.2)=l
def Ev (ts:List Tok):pf 5 ts=match fa (-128) 255 ts with | .error e=>.error e | .ok n=>.ok { dA 5 with n:=n }:=by
 unfold pf;rw [OH rfl]
 all_goals (cases fa (-128) 255 ts <;> rfl)
def EA (ts:List Tok):pf 6 ts=match bL ts with | .error e=>.error e | .ok x=>.ok { dA 6 with e:=x }:=by
 unfold pf;rw [OG bO]
 all_goals (cases bL ts <;> rfl)
def BO {h:Hp} {k:Nat} (hk56:k=5\/k=6) {p:Option XC} {l c:Nat} {al:List In} (v:AH h p l al) (hal:al.length<=2^32) :
  HC Tryz.prog 128 #[.int .i64 (k:Int),.slice p l c] h (NV h (y9 k (al.map In.ts))):=by
 refine ba (args:=[.int .i64 (k:Int),.slice p l c]) mixed Tryz.func128 aB (wA k p l c) ?_;unfold uk cv bN dH bW aS aR av aw aI bh aQ gK;have hl:=v.len;refine ai (fun q=>?_) (fun q=>?_)
 ·have q:l=0:=fe q;refine ⟨Ch.refl _ _,?_⟩
  have:y9 k (al.map In.ts)=.error 20:=by
   unfold y9;rw [OH (by rw [OQ (show al.length=0 from ae)]; rfl)]
  rw [this];exact ⟨rfl,.inl rfl⟩
 have q:¬ l=0:=fy q;have hR:y9 k (al.map In.ts)=cL k (al.map In.ts):=by
  unfold y9;rw [OG (fun hh=>by have:=O7 List.length hh; simp at this; rw [this] at hl; simp at hl; omega)]
 rw [hR]
 refine bJ (cs:=[(false,[.slice 0]),(false,[.int .i64]),(false,[.slice 0]),(false,[.int .i64])]) (fun x n h'=>∃ (i:Nat) (us:List (cH × cd)),x.2.2.2.1=(i:Int)/\i<=l/\n=l-i/\Ext h h'/\dO h' h.size x.2.2.1.1 x.2.2.1.2.1 x.2.2.1.2.2 us/\us.length=i /\
   cL k (al.map In.ts)=(match cL k ((al.map In.ts).drop i) with | .error e=>.error e | .ok r=>.ok (us.map (·.2)++r))) ((none,0,0),(0:Int),(none,0,0),(0:Int),()) l rfl
  ⟨0,[],rfl,ae,ae,Ch.refl _ _,dO.nil _ _,rfl,by rw [Qb]; cases cL k (al.map In.ts) <;> rfl⟩ ?_
 rintro ⟨⟨p2,l3,l4⟩,n5,⟨p6,l7,l8⟩,n9,⟨⟩⟩ n h1 ⟨i,us,hi,hil,rfl,e1,A,hus,hit⟩;simp only at hi A;subst hi;refine ao ?_;refine ai (fun r=>?_) (fun r=>?_)
 ·have r:=OE r;have hia:i<al.length:=ae
  obtain ⟨aa,haa,hca⟩:=(v.an e1).cells i hia;refine aC ⟨ae,ae⟩ (au haa ?_);rw [show Int.toNat (i:Int)=i from ae];have hmem:al[i]∈al:=O2 hia;have hda:(al.map In.ts).drop i=al[i].ts::(al.map In.ts).drop (i+1):=by
   rw [OM (by rw [OI]; exact hia),O4]
  rw [hda] at hit;simp only [cL] at hit;generalize al[i]=a at hit hca hmem;refine aG ((a.p,a.l,a.c),()) hca (ao ?_);refine bm ?_;intro h2 b2 e2 z2;refine ap b2 rfl aj ?_;intro h3 b3 k3 z3;have b3:bf h3 h1.size 96 (encI none 0 0 (dA k)):=b3;have e13:Ext h1 h3:=Ch.trans e2 k3 (fun j hj hl=>by simp at hj; omega);have e03:=e1.trans e13;have A3:=A.an e13 aj;have hz1:=e1.size;have hlt3:=b3.lt
  have push:∀ {L:Lp} {K:XB->Hp->Prop} {kk:Option XC->Nat->Nat->T} {hh:Hp} {sp:cH} {y:cd},Ext h3 hh\/Ch [h1.size] h3 hh->Ch [h1.size] h3 hh->SL hh (h1.size+1) 109 2 sp.p sp.l sp.c (y.e.ay.map cB) ->
    (∀ p' c' h',Ext h h'->dO h' h.size p' (l7+1) c' (us++[(sp,y)])->kk p' (l7+1) c' L K h') ->
    T.fb Tryz.prog (Instr.buildSlice 23 1 #[(0,.agg (encI sp.p sp.l sp.c y).toArray)]) false [(false,[.slice 0])] (fun q m cc=>T.fb Tryz.prog (Builtin.append_ #[23,23] 23 #[.slice p6 l7 l8,.slice q m cc]) false [(false,[.slice 0])] kk) L K hh:=by
   intro L K kk hh sp y _ kc sy hk;have hzh:=kc.size;have e0h:Ext h hh:=Ch.trans e03 kc (fun j hj hl=>by simp at hj; omega);have Ah:dO hh h.size p6 l7 l8 us:=by
    refine ⟨Sx.SL.bd A3.out kc (fun j hj hm=>?_),fun u hu=>Sx.SL.bd (A3.own u hu) kc (fun j hj hm=>?_),A3.po,A3.pp⟩
    ·have:=(Sx.SL.bH A.out hj).2; simp at hm; omega
    ·have:=(Sx.SL.bH (A.own u hu) hj).2; simp at hm; omega
   refine fp (e:=96) (z:=.agg zI.toArray) (sz:=10) (by':=104) (vs:=encI sp.p sp.l sp.c y) B3 yN rfl ae ae (GP _ _ _ _) rfl rfl Ah.out e0h.size (by have:=A.len; omega) (by have:=A.len; omega) ?_;intro p' c' h' o k' hp';refine hk p' c' h' (Ch.trans e0h k' (fun j hj hl=>by have:=(Sx.SL.bH Ah.out hj).1; omega)) (Ah.snoc (u:=(sp,y)) o k' hp' (Sx.SL.mono sy ae) (fun j hj hm=>?_) (fun x hx j hj hm=>?_))
   ·have h1:=(Sx.SL.bH sy hj).1;have h2:=(Sx.SL.bH A.out hm).2;omega
   ·have h1:=(Sx.SL.bH sy hm).1;have h2:=(Sx.SL.bH (A.own x hx) hj).2;omega
  have hw:IntKind.wrap .i64 ((i:Int)+1)=((i+1:Nat):Int):=by rw [wrap_i64 ae ae]; omega
  have v3:=v.an e03;rcases hk56 with rfl | rfl
  ·refine aX rfl ?_;refine aK (qQ (v3.lK a hmem) (v3.bH a hmem) (v.wf a hmem) (v.many a hmem) (-128) 255) ?_;rintro _ h4 ⟨rfl,e4⟩;rw [Ev] at hit;cases hn:fa (-128) 255 a.ts with
   | error e =>
    rw [hn] at hit;have he:=ff (v.wf a hmem) hn;refine ⟨((0:Int),(e:Int),()),rfl,ao ?_⟩;rw [az];refine ap (b3.an e4 aj) rfl (by simp [encI]) ?_;intro h5 b5 k5 z5;refine aX (by simp; omega) ?_;refine ⟨Ch.trans (e03.trans e4) k5 (fun j hj hl=>by simp at hj; omega),?_⟩;rw [hit];exact ⟨rfl,he⟩
   | ok nn =>
    rw [hn] at hit;refine ⟨(nn,(0:Int),()),rfl,ao ?_⟩;rw [az];refine ap (b3.an e4 aj) rfl (by simp [encI]) ?_;intro h5 b5 k5 z5;have b5:bf h5 h1.size 96 (encI none 0 0 { dA 5 with n:=nn }):=b5;refine aW rfl ?_;refine af b5 ((5:Int),(⟨#[]⟩:XA),(0:Int),(0:Int),(0:Int),(0:Int),(0:Int),(none,0,0),(0:Int),nn,()) rfl (ao ?_);have k35:Ch [h1.size] h3 h5:=Ch.trans (e4.mono aj) k5 (fun j hj _=>hj);refine push (sp:=⟨none,0,0⟩) (y:={ dA 5 with n:=nn }) (.inr k35) k35 (SL.nil _ _ _ _) ?_;intro p' c' h6 e6 A6;refine aY (cs:=[(false,[.slice 0]),(false,[.int .i64]),(false,[.slice 0]),(false,[.int .i64])]) ((p2,l3,l4),n5,(p',l7+1,c'),((i+1:Nat):Int),()) (l-(i+1)) rfl ae (by rw [hw]; rfl) ⟨i+1,_,rfl,ae,rfl,e6,A6,by simp [hus],?_⟩;rw [hit];cases cL 5 ((al.map In.ts).drop (i+1)) <;> simp
  ·refine aW rfl ?_;refine aK (kG (v3.lK a hmem) (v3.bH a hmem) (v.wf a hmem) (v.many a hmem)) ?_;rintro u h4 ⟨e4,hu⟩;rw [EA] at hit;cases hn:bL a.ts with
   | error e =>
    rw [hn] at hit hu;have he:=dC (v.wf a hmem) hn;have hu:u=.tuple #[.agg #[.slice none 0 0,.int .u32 0],.int .i64 (e:Int)]:=hu;subst hu;refine ⟨((none,0,0),(0:Int),(e:Int),()),rfl,ao ?_⟩;rw [az];refine ap (b3.an e4 aj) rfl (by simp [encI]) ?_;intro h5 b5 k5 z5;refine aX (by simp; omega) ?_;refine ⟨Ch.trans (e03.trans e4) k5 (fun j hj hl=>by simp at hj; omega),?_⟩;rw [hit];exact ⟨rfl,he⟩
   | ok y =>
    rw [hn] at hit hu;obtain ⟨p5,l5,c5,rfl,sl,gd⟩:=hu;refine ⟨((p5,l5,c5),(y.num:Int),(0:Int),()),rfl,ao ?_⟩;rw [az];refine ap (b3.an e4 aj) rfl (by simp [encI]) ?_;intro h5 b5 k5 z5;have b5:bf h5 h1.size 96 (encI p5 l5 c5 { dA 6 with e:=y }):=b5;refine aW rfl ?_;refine af b5 ((6:Int),(⟨#[]⟩:XA),(0:Int),(0:Int),(0:Int),(0:Int),(0:Int),(p5,l5,c5),(y.num:Int),(0:Int),()) rfl (ao ?_);have k35:Ch [h1.size] h3 h5:=Ch.trans (e4.mono aj) k5 (fun j hj _=>hj);refine push (sp:=⟨p5,l5,c5⟩) (y:={ dA 6 with e:=y }) (.inr k35) k35 ((Sx.SL.mono sl ae).bd k5 (fun j hj hm=>by have:=(Sx.SL.bH sl hj).1; simp at hm; omega)) ?_;intro p' c' h6 e6 A6;refine aY (cs:=[(false,[.slice 0]),(false,[.int .i64]),(false,[.slice 0]),(false,[.int .i64])]) ((p2,l3,l4),n5,(p',l7+1,c'),((i+1:Nat):Int),()) (l-(i+1)) rfl ae (by rw [hw]; rfl) ⟨i+1,_,rfl,ae,rfl,e6,A6,by simp [hus],?_⟩;rw [hit];cases cL 6 ((al.map In.ts).drop (i+1)) <;> simp
 ·have r:=OF r
  have:i=l:=ae
  subst this;rw [Pp (by rw [OI]; omega)] at hit;refine ⟨e1,?_⟩;rw [hit];exact ⟨p6,l7,l8,us,rfl,A,by simp [cL]⟩
def Fs (s:XA) (h:Hp):pO Tryz.prog 126 [.string s] h (.tuple #[.int .i64 (if bX s=-2 then 0 else bX s),.bool (decide (bX s≠-2))]):=by
 refine dk mixed Tryz.func126 aB (vH s) ?_;unfold sb aw aJ;refine ai (fun g=>?_) (fun g=>?_)
 ·have q0:s.data.toList=[112,111,111,108]:=(ByteArray.toList_eq s).symm.trans (eq_of_beq g);refine ⟨?_,rfl⟩
  have:bX s=0:=by unfold bX; simp [q0]
  rw [this] <;> rfl
 ·have n0:¬ s.data.toList=[112,111,111,108]:=fun e=>ON g ((ByteArray.toList_eq s).trans e)
  refine ai (fun g=>?_) (fun g=>?_)
  ·have q1:s.data.toList=[97,108,105,103,110]:=(ByteArray.toList_eq s).symm.trans (eq_of_beq g);refine aX (by rw [ByteArray.toList_eq,q1]; rfl) ?_;refine ⟨?_,rfl⟩
   have:bX s=1:=by unfold bX; simp [n0,q1]
   rw [this] <;> rfl
  ·have n1:¬ s.data.toList=[97,108,105,103,110]:=fun e=>ON g ((ByteArray.toList_eq s).trans e)
   refine ai (fun g=>?_) (fun g=>?_)
   ·have q2:s.data.toList=[115,112,97,99,101]:=(ByteArray.toList_eq s).symm.trans (eq_of_beq g);refine aX (by rw [ByteArray.toList_eq,q2]; rfl) ?_;refine ⟨?_,rfl⟩
    have:bX s=1:=by unfold bX; simp [n0,n1,q2]
    rw [this] <;> rfl
   ·have n2:¬ s.data.toList=[115,112,97,99,101]:=fun e=>ON g ((ByteArray.toList_eq s).trans e)
    refine ai (fun g=>?_) (fun g=>?_)
    ·have q3:s.data.toList=[103,108,111,98,97,108]:=(ByteArray.toList_eq s).symm.trans (eq_of_beq g);refine aX (by rw [ByteArray.toList_eq,q3]; rfl) ?_;refine ⟨?_,rfl⟩
     have:bX s=1:=by unfold bX; simp [n0,n1,n2,q3]
     rw [this] <;> rfl
    ·have n3:¬ s.data.toList=[103,108,111,98,97,108]:=fun e=>ON g ((ByteArray.toList_eq s).trans e)
     refine ai (fun g=>?_) (fun g=>?_)
     ·have q4:s.data.toList=[115,101,99,116,105,111,110]:=(ByteArray.toList_eq s).symm.trans (eq_of_beq g);refine ⟨?_,rfl⟩
      have:bX s=1:=by unfold bX; simp [n0,n1,n2,n3,q4]
      rw [this] <;> rfl
     ·have n4:¬ s.data.toList=[115,101,99,116,105,111,110]:=fun e=>ON g ((ByteArray.toList_eq s).trans e)
      refine ai (fun g=>?_) (fun g=>?_)
      ·have q5:s.data.toList=[101,113,117]:=(ByteArray.toList_eq s).symm.trans (eq_of_beq g);refine ⟨?_,rfl⟩
       have:bX s=2:=by unfold bX; simp [n0,n1,n2,n3,n4,q5]
       rw [this] <;> rfl
      ·have n5:¬ s.data.toList=[101,113,117]:=fun e=>ON g ((ByteArray.toList_eq s).trans e)
       refine ai (fun g=>?_) (fun g=>?_)
       ·have q6:s.data.toList=[98,121,116,101]:=(ByteArray.toList_eq s).symm.trans (eq_of_beq g);refine aX (by rw [ByteArray.toList_eq,q6]; rfl) ?_;refine ⟨?_,rfl⟩
        have:bX s=-1:=by unfold bX; simp [n0,n1,n2,n3,n4,n5,q6]
        rw [this] <;> rfl
       ·have n6:¬ s.data.toList=[98,121,116,101]:=fun e=>ON g ((ByteArray.toList_eq s).trans e)
        refine ai (fun g=>?_) (fun g=>?_)
        ·have q7:s.data.toList=[119,111,114,100]:=(ByteArray.toList_eq s).symm.trans (eq_of_beq g);refine ⟨?_,rfl⟩
         have:bX s=-1:=by unfold bX; simp [n0,n1,n2,n3,n4,n5,n6,q7]
         rw [this] <;> rfl
        ·have n7:¬ s.data.toList=[119,111,114,100]:=fun e=>ON g ((ByteArray.toList_eq s).trans e)
         refine ⟨?_,rfl⟩
         have:bX s=-2:=by unfold bX; simp [n0,n1,n2,n3,n4,n5,n6,n7]
         rw [this] <;> rfl
end Go.Sx.Ob
