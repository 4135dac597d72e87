/- Contracts over heaps, and plain laws, for the functions that the laws of chapter 9 call, part 8: A refusal in words, its number; is an error the refusal that is expected? Asked: Condition: as each statement says. -/
import Derived.Test.YtfkjiiapldkoeaaGreatDoorP7
import Derived.Test.YtfkjiiapldkoeaaGreatDoorAobjShelf
import Derived.Test.YtfkjiiapldkoeaaGreatDoorAtN
import Derived.Test.YtfkjiiapldkoeaaGreatDoorAtO
import Derived.Test.YtfkjiiapldkoeaaGreatDoorAtP
import Derived.Lib.ItoaLen
import Derived.HandedShaped
import Derived.Shelf.Vars
import Derived.Test.YtfkjiiapldkoeaaGreatDoorTie
import Derived.Test.YtfkjiiapldkoeaaGreatDoorCards
import Derived.SevenTiedAt
set_option linter.unusedVariables false
set_option linter.unusedSimpArgs false
set_option maxRecDepth 100000
namespace Go.Sx.Ob
open Go.Proofs
theorem SL.flat {h:Hp} {b:Nat} {e:TypeId} {sz:Nat} {a:Addr} {l c:Nat} {xs:List (List Value)} (s:SL h b e sz (some a) l c xs):cellsAt h a 0 xs.flatten:=by
 obtain ⟨g,pre,rest,rfl,hbg,hlc,hbox,hr⟩:=s.2.2
 refine hbox.cells _ ?_
 rw [List.drop_left,List.take_left]
def Pow10 (h:Hp):Prop:=∃ e f,h[3]?=some (.cells (Lib.pow10Tab.map fun z=>Value.int .u64 z).toArray e f)
theorem Pow10.keep {ws:List Nat} {h h':Hp} (p:Pow10 h) (k:Ch ws h h') (hw:3∉ws):Pow10 h':=by
 obtain ⟨e,f,hp⟩:=p
 exact ⟨e,f,k.get hp hw⟩
theorem tab_of {W:World} {name:String} (hg:Tryz.prog.globalNamed name=some 3) (p:Pow10 W.heap):Lib.TabIs Tryz.prog W name .u64 Lib.pow10Tab:=by
 obtain ⟨e,f,hp⟩:=p
 unfold Lib.TabIs World.var?
 rw [hg]
 show (match W.heap[3]? with | some (.cells cs _ _)=>some cs | _=>none)=_
 rw [hp]
theorem itoa_hc {h:Hp} (p:Pow10 h) (n:Nat) (hn:n≤2^60):HC Tryz.prog 71 #[.int .i64 n] h fun v h'=>∃ s:ByteArray,v=.string s∧s.size≤1000∧Ext h h':=by
 intro W hW
 subst hW
 refine (Tryz.strconv_Itoa n (by omega) (by omega) W (tab_of (by kernel_rfl) p)).mono ?_
 rintro e w' ⟨he,k,os,rfl⟩
 refine ⟨_,he,⟨rfl,rfl,rfl⟩,_,rfl,?_,?_⟩
 ·show (Lib.itoa (n:Int)).toArray.size≤1000
  have:=Lib.itoa_length_le (n:Int) (by omega) (by omega)
  simp
  omega
 ·refine ⟨by show W.heap.size≤(W.heap++os).size; simp,fun i hi _=>?_⟩
  show (W.heap++os)[i]?=_
  rw [Array.getElem?_append_left hi]
theorem und22':Tryz.prog.underlying 42=some (.slice 5):=by kernel_rfl
theorem und5':Tryz.prog.underlying 5=some (.int .u8):=by kernel_rfl
theorem und9':Tryz.prog.underlying 9=some .string:=by kernel_rfl
theorem toStr_of {L:Lp} {K:Value→Hp→Prop} {h:Hp} {b:Nat} {p:Option Addr} {l c:Nat} {bs:List UInt8} {k:ByteArray→T} (s:SL h b 5 1 p l c (byC bs)) (h0:bs≠[]) (hk:k ⟨bs.toArray⟩ L K h) :
  T.sem Tryz.prog (convert 42 9 (.slice p l c)) false [(false,[.string])] k L K h:=by
 show semW Tryz.prog (convert 42 9 (.slice p l c)) h _
 unfold convert
 rw [semW_bind',semW_underlying und22',semW_bind',semW_underlying und9']
 show semW Tryz.prog (do match ← underlying 5 with
  | .int .u8=>Conv.bytesToString (.slice p l c)
  | .int .i32=>Conv.runesToString (.slice p l c)
  | _ => stuck "Convert: a slice of what to string?") h _
 rw [semW_bind',semW_underlying und5']
 cases p with
 | none =>
  have h1:byC bs=[]:=s.2.2.2
  have:bs=[]:=by simpa [byC] using h1
  exact absurd this h0
 | some a =>
  have hl:l=bs.length:=by rw [s.1,byC_length]
  subst hl
  have hf:=SL.flat s
  rw [byC_flat] at hf
  exact bytesBack a bs c _ hf ⟨(⟨bs.toArray⟩,()),rfl,hk⟩
theorem digitV (n:Nat):IntKind.wrap .u8 (IntKind.wrap .i64 ((48:Int)+(Int.tmod (n:Int) (10:Int))))=((UInt8.ofNat (48+n % 10)).toNat:Int):=by
 have e:Int.tmod (n:Int) 10=((n % 10:Nat):Int):=by
  rw [Int.tmod_eq_emod_of_nonneg (by omega)]
  rfl
 rw [e,wrap_i64 (by omega) (by omega),wrap_u8 (by omega) (by omega)]
 simp
 omega
theorem append_none {P:Program} {h:Hp} {t ty e:TypeId} {i:TypeInfo} (ht:P.underlying t=some (.slice e)) (hi:P.info? e=some i) (a:Addr) (l:Nat) (K:Value→Hp→Prop) (hk:K (.slice (some a) l l) h) :
  semW P (Builtin.append_ #[t,t] ty #[.slice (some a) l l,.slice none 0 0]) h K:=by
 simp [Builtin.append_,semW_bind',semW_underlying ht,semW_sizeOf hi,cellsOf_info hi,Builtin.lenOf,Builtin.firstCells]
 rw [semW_map]
 exact hk
theorem errno_hc (h:Hp) (n:Nat) (hn:n<10^18):HC Tryz.prog 72 #[.int .i64 n] h fun v h'=>∃ s:ByteArray,v=.string s∧s.size≤1000∧Ext h h':=by
 refine hcr_of (args:=[.int .i64 n]) mixed Tryz.func72 (by kernel_rfl) (t__api_Errno__Error_eq n) ?_
 unfold t__api_Errno__Error
 refine cond_mk (fun _=>⟨_,rfl,by decide,Ch.refl _ _⟩) (fun _=>?_)
 refine cond_mk (fun _=>⟨_,rfl,by decide,Ch.refl _ _⟩) (fun _=>?_)
 refine cond_mk (fun _=>⟨_,rfl,by decide,Ch.refl _ _⟩) (fun _=>?_)
 refine cond_mk (fun _=>⟨_,rfl,by decide,Ch.refl _ _⟩) (fun _=>?_)
 refine cond_f (by rw [decide_eq_false_iff_not]; omega) ?_
 refine loop_of (cs:=[(false,[.int .i64]),(false,[.slice 0])]) (fun y m h'=>∃ (k:Nat) (bs:List UInt8) (p:Option Addr) (c:Nat),y=((k:Int),(p,bs.length,c),())∧m=k+(if bs=[] then 1 else 0)∧bs.length≤20∧k≤n∧k<10^(20-bs.length)∧SL h' h.size 5 1 p bs.length c (byC bs)∧Ext h h') ((n:Int),(none,0,0),()) (n+1) rfl
  ⟨n,[],none,0,rfl,rfl,by simp,Nat.le_refl _,Nat.lt_of_lt_of_le hn (Nat.pow_le_pow_right (by omega) (by simp)),SL.nil _ _ _ _,Ch.refl _ _⟩ ?_
 rintro ⟨n6,⟨p7,l8,l9⟩,⟨⟩⟩ m h1 ⟨k,bs,p,c,hy,hm,hbl,hkn,hkl,sl,e1⟩
 cases hy
 dsimp only [flat,unc,unc1,nA,cA]
 have hz1:=e1.size
 have step:(0<k∨bs=[])→(T.need ((10:Int)≠(0:Int)) <|
    T.sem Tryz.prog (Instr.buildSlice 42 1 #[(0,.int .u8 (IntKind.wrap .u8 (IntKind.wrap .i64 ((48:Int)+(Int.tmod (k:Int) (10:Int))))))]) false [(false,[.slice 0])] <| fun (p5:Option Addr) (l6:Nat) (l7:Nat) =>
    T.sem Tryz.prog (Builtin.append_ #[42,42] 42 #[.slice p5 l6 l7,.slice p7 bs.length l9]) false [(false,[.slice 0])] <| fun (p8:Option Addr) (l9:Nat) (l10:Nat) =>
    T.need ((10:Int)≠(0:Int)) <|
    T.again 0 [.int .i64 (IntKind.wrap .i64 (Int.tdiv (k:Int) (10:Int))),.slice p8 l9 l10]) [Jl (cs:=[(false,[.int .i64]),(false,[.slice 0])]) (fun y m h'=>∃ (k:Nat) (bs:List UInt8) (p:Option Addr) (c:Nat),y=((k:Int),(p,bs.length,c),())∧m=k+(if bs=[] then 1 else 0)∧bs.length≤20∧k≤n∧k<10^(20-bs.length)∧SL h' h.size 5 1 p bs.length c (byC bs)∧Ext h h') m] (fun v h'=>∃ s:ByteArray,v=.string s∧s.size≤1000∧Ext h h') h1:=by
  intro hs
  have hk20:bs.length<20:=by
   rcases hs with hs | hs
   ·by_cases g:bs.length<20
    ·exact g
    ·have:20-bs.length=0:=by omega
     rw [this] at hkl
     simp at hkl
     omega
   ·rw [hs]; simp
  refine need_of (by decide) ?_
  rw [digitV]
  refine lit_of und22 byZ (by omega) (by omega) (fill1 ((UInt8.ofNat (48+k % 10)).toNat:Int)) ?_
  intro h2 b2 e2 z2
  have s2:SL h2 h1.size 5 1 (some ⟨h1.size,0,none⟩) 1 1 (byC [UInt8.ofNat (48+k % 10)]) :=
   ⟨rfl,byC_len _,h1.size,[],[],rfl,Nat.le_refl _,⟨by omega,by omega⟩,b2,by simp⟩
  have sl2:=sl.keep e2 (by simp)
  obtain ⟨i5,hi5,hz5,hs5,hb5⟩:=inf_of byZ
  have fin:∀ (bs':List UInt8) (p':Option Addr) (c':Nat) (h3:Hp),bs'=UInt8.ofNat (48+k % 10)::bs→SL h3 h1.size 5 1 p' bs'.length c' (byC bs')→Ext h1 h3→(T.need ((10:Int)≠(0:Int)) <|
    T.again 0 [.int .i64 (IntKind.wrap .i64 (Int.tdiv (k:Int) (10:Int))),.slice p' bs'.length c']) [Jl (cs:=[(false,[.int .i64]),(false,[.slice 0])]) (fun y m h'=>∃ (k:Nat) (bs:List UInt8) (p:Option Addr) (c:Nat),y=((k:Int),(p,bs.length,c),())∧m=k+(if bs=[] then 1 else 0)∧bs.length≤20∧k≤n∧k<10^(20-bs.length)∧SL h' h.size 5 1 p bs.length c (byC bs)∧Ext h h') m] (fun v h'=>∃ s:ByteArray,v=.string s∧s.size≤1000∧Ext h h') h3:=by
   intro bs' p' c' h3 hbs s3 e3
   refine need_of (by decide) ?_
   have hdiv:Int.tdiv (k:Int) (10:Int)=((k / 10:Nat):Int):=by
    rw [Int.tdiv_eq_ediv_of_nonneg (by omega)]
    rfl
   rw [hdiv,wrap_i64 (by omega) (by omega)]
   refine again_mk (cs:=[(false,[.int .i64]),(false,[.slice 0])]) (((k / 10:Nat):Int),(p',bs'.length,c'),()) (k / 10) rfl ?_ rfl ?_
   ·rw [hm]
    rcases hs with hs | hs
    ·omega
    ·rw [if_pos hs]; omega
   ·refine ⟨k / 10,bs',p',c',rfl,?_,?_,by omega,?_,s3.mono (by omega),e1.trans e3⟩
    ·rw [if_neg (by rw [hbs]; simp)]; rfl
    ·rw [hbs]; simp; omega
    ·rw [hbs,List.length_cons]
     have:10^(20-bs.length)=10^(20-(bs.length+1))*10:=by
      rw [← Nat.pow_succ]
      congr 1
      omega
     rw [this] at hkl
     omega
  have hl7:bs.length=(byC bs).length:=(byC_length bs).symm
  cases p7 with
  | none =>
   have hb1:byC bs=[]:=sl2.2.2.2
   have hb3:l9=0:=sl2.2.2.1
   have:bs=[]:=by simpa [byC] using hb1
   subst this hb3
   refine sem_slice (append_none und22 hi5 _ 1 _ ?_)
   exact ⟨_,1,1,rfl,fin [UInt8.ofNat (48+k % 10)] _ 1 h2 rfl s2 e2⟩
  | some a7 =>
   refine sem_slice (append_of (i:=i5) und22 hi5 hz5 (by rw [hs5]; rfl) (by rw [hs5]; exact s2) (ys:=byC bs) hl7 (by rw [hs5]; exact byC_len bs) (SL.flat sl2) (byC_plain bs) (by rw [hb5]; omega) (by omega) (by omega) ?_)
   intro p' c' h3 s3 k3 hp'
   refine ⟨p',1+bs.length,c',rfl,?_⟩
   have hlen:1+bs.length=(UInt8.ofNat (48+k % 10)::bs).length:=by simp; omega
   rw [hlen]
   refine fin _ p' c' h3 rfl ?_ (e2.st k3 (Nat.le_refl _))
   rw [← hlen]
   rw [hs5] at s3
   exact s3
 refine cond_mk (fun q=>?_) (fun q=>?_)
 ·have q:=of_decide_eq_true q
  exact step (.inl (by omega))
 ·refine cond_mk (fun w=>?_) (fun w=>?_)
  ·have w:bs.length=0:=eqN_t w
   exact step (.inr (List.eq_nil_of_length_eq_zero w))
  ·have w:¬ bs.length=0:=eqN_f w
   refine toStr_of sl (fun e=>w (by rw [e]; rfl)) ?_
   have hsz:(⟨bs.toArray⟩:ByteArray).size=bs.length:=by show bs.toArray.size=_; simp
   refine need_of (by rw [hsz]; omega) ?_
   refine ⟨_,rfl,?_,e1⟩
   rw [ByteArray.size_append,hsz]
   show 8+bs.length≤1000
   omega
end Go.Sx.Ob
set_option linter.unusedVariables false
set_option maxRecDepth 100000
namespace Go.Sx
open Go.Proofs
def t_spandrellaw9_refused (v0:Value) (n1:Int) (n1_1:Int):T :=
 T.new [.int .i64 n1,.int .i64 n1_1] 33 <| fun (a2:Addr) =>
 T.loads (a2.add 1) [.int .i64] <| fun (n3:Int) =>
 cond (n3==(0:Int))
 (T.sem Tryz.prog (Sx.cmpS (BinOp.eql) 29 (Operand.tmp 10) (Operand.const Value.nilIface) v0 .nilIface) false [(false,[.bool])] <| fun (b4:Bool) =>
 T.ret (.bool b4))
 (T.sem Tryz.prog (Instr.typeAssert v0 29 59 true) true [(false,[.pointer 63]),(false,[.bool])] <| fun (p4:Option Addr) (b5:Bool) =>
 cond b5
  (cond (!(/-?Option.isSome.match_1-/ match p4 with
  | some val=>false
  | none=>true))
  (T.osome p4 <| fun (a6:Addr) =>
  T.loads a6 [.int .i64] <| fun (n7:Int) =>
  T.loads a2 [.int .i64] <| fun (n8:Int) =>
  cond (n7==n8)
   (T.osome p4 <| fun (a9:Addr) =>
   T.loads (a9.add 1) [.int .i64] <| fun (n10:Int) =>
   T.loads (a2.add 1) [.int .i64] <| fun (n11:Int) =>
   cond (n10==n11)
   (T.call Tryz.prog 37 [.pointer p4] false [(false,[.string])] <| fun (s12:ByteArray) =>
   T.stable [((a2.add 1),[.int .i64 n11]),((a9.add 1),[.int .i64 n10]),(a2,[.int .i64 n8]),(a6,[.int .i64 n7])] <|
   cond (!((ByteArray.toList s12)==[]))
    (T.osome p4 <| fun (a13:Addr) =>
    T.loads (a13.add 1) [.int .i64] <| fun (n14:Int) =>
    T.call Tryz.prog 39 [.pointer p4] false [(false, [.interface #[("Error", 85)]])] <| fun (v15 : Value) =>
    T.stable [((a13.add 1),[.int .i64 n14]),((a2.add 1),[.int .i64 n11]),((a9.add 1),[.int .i64 n10]),(a2,[.int .i64 n8]),(a6,[.int .i64 n7])] <|
    T.call Tryz.prog 38 [v15,.iface 44 (.int .i64 n14)] false [(false,[.bool])] <| fun (b16:Bool) =>
    T.stable [((a13.add 1),[.int .i64 n14]),((a2.add 1),[.int .i64 n11]),((a9.add 1),[.int .i64 n10]),(a2,[.int .i64 n8]),(a6,[.int .i64 n7])] <|
    cond b16
    (T.loads (a2.add 1) [.int .i64] <| fun (n17:Int) =>
    T.call Tryz.prog 40 [v0,.iface 44 (.int .i64 n17)] false [(false,[.bool])] <| fun (b18:Bool) =>
    T.stable [((a2.add 1),[.int .i64 n17]),((a13.add 1),[.int .i64 n14]),((a2.add 1),[.int .i64 n11]),((a9.add 1),[.int .i64 n10]),(a2,[.int .i64 n8]),(a6,[.int .i64 n7])] <|
    T.ret (.bool b18))
    (T.ret (.bool false)))
    (T.ret (.bool false)))
   (T.ret (.bool false)))
   (T.ret (.bool false)))
  (T.ret (.bool false)))
  (T.ret (.bool false)))
theorem t_spandrellaw9_refused_eq (v0:Value) (n1:Int) (n1_1:Int):xfun Tryz.prog [] Tryz.f12 [v0,.agg #[.int .i64 n1,.int .i64 n1_1]]=t_spandrellaw9_refused v0 n1 n1_1:=by kernel_rfl
end Go.Sx
set_option linter.unusedVariables false
set_option linter.unusedSimpArgs false
set_option maxRecDepth 100000
namespace Go.Sx.Ob
open Go.Proofs
theorem is_hc {h:Hp} {a:Nat} {x n:Int} (b:Box h a 63 [.int .i64 x,.int .i64 n]):HCp Tryz.prog 40 [.iface 59 (ptr a),.iface 44 (.int .i64 n)] h (.bool true):=by
 intro W hW
 subst hW
 refine (Go.Proofs.YtfkjiiapldkoeaaGreatDoor.errorsIs a n W ?_).mono ?_
 ·rw [cell_heap,b.cell]
  rfl
 ·rintro e w' ⟨he,rfl⟩
  exact ⟨_,he,SameO.refl _,rfl,rfl⟩
theorem unwrap_hc {h:Hp} {a:Nat} {x n:Int} (b:Box h a 63 [.int .i64 x,.int .i64 n]):HCp Tryz.prog 39 [ptr a] h (.iface 44 (.int .i64 n)):=by
 refine hcp_of mixed Tryz.func39 (by kernel_rfl) (t_unit_Refusal__Unwrap_eq (some ⟨a,0,none⟩)) ?_
 unfold t_unit_Refusal__Unwrap
 refine osome_mk rfl ?_
 rw [add_box]
 refine loads_box b (n,()) rfl ?_
 exact ⟨rfl,rfl⟩
theorem error_hc {h:Hp} (p:Pow10 h) {a x n:Nat} (hx:x≤2^60) (hn:n<10^18) (b:Box h a 63 [.int .i64 (x:Int),.int .i64 (n:Int)]):HC Tryz.prog 37 #[ptr a] h fun v h'=>∃ s:ByteArray,v=.string s∧s.data.toList≠[]∧Ext h h':=by
 refine hcr_of (args:=[ptr a]) mixed Tryz.func37 (by kernel_rfl) (t_unit_Refusal__Error_eq (some ⟨a,0,none⟩)) ?_
 unfold t_unit_Refusal__Error
 refine osome_mk rfl ?_
 refine loads_box b ((x:Int),()) rfl ?_
 dsimp only [flat,unc,unc1,nA,cA]
 refine osome_mk rfl ?_
 rw [add_box]
 refine loads_box b ((n:Int),()) rfl ?_
 dsimp only [flat,unc,unc1,nA,cA]
 refine call_of (itoa_hc p x hx) ?_
 rintro _ h1 ⟨s,rfl,hs,e1⟩
 refine ⟨(s,()),rfl,?_⟩
 dsimp only [flat,unc,unc1,nA,cA]
 have b1:=b.keep e1 (by simp)
 refine ⟨⟨b1.cells _ rfl,trivial⟩,?_⟩
 have z5:(⟨#[108,105,110,101,32]⟩:ByteArray).size=5:=rfl
 have z2:(⟨#[58,32]⟩:ByteArray).size=2:=rfl
 refine need_of (by omega) (need_of (by rw [ByteArray.size_append,z5]; omega) ?_)
 refine call_of (errno_hc h1 n hn) ?_
 rintro _ h2 ⟨t,rfl,ht,e2⟩
 refine ⟨(t,()),rfl,?_⟩
 dsimp only [flat,unc,unc1,nA,cA]
 refine ⟨⟨(b1.keep e2 (by simp)).cells _ rfl,trivial⟩,?_⟩
 refine need_of (by rw [ByteArray.size_append,ByteArray.size_append,z5,z2]; omega) ?_
 refine ⟨_,rfl,?_,e1.trans e2⟩
 intro h0
 have:=congrArg List.length h0
 simp at this
theorem eqIN (o:Nat) (t:TypeId) (u:Value) (h:Hp) (K:Value→Hp→Prop):semW Tryz.prog (Sx.cmpS (BinOp.eql) 29 (Operand.tmp o) (Operand.const Value.nilIface) (.iface t u) .nilIface) h K=K (.bool false) h:=by kernel_rfl
theorem eqNN (o:Nat) (h:Hp) (K:Value→Hp→Prop):semW Tryz.prog (Sx.cmpS (BinOp.eql) 29 (Operand.tmp o) (Operand.const Value.nilIface) .nilIface .nilIface) h K=K (.bool true) h:=by kernel_rfl
theorem neNN (o:Nat) (h:Hp) (K:Value→Hp→Prop):semW Tryz.prog (Sx.cmpS (BinOp.neq) 29 (Operand.tmp o) (Operand.const Value.nilIface) .nilIface .nilIface) h K=K (.bool false) h:=by kernel_rfl
theorem eqEE (n:Int) (o u:Nat) (h:Hp) (K:Value→Hp→Prop):semW Tryz.prog (Sx.cmpS (BinOp.eql) 29 (Operand.tmp o) (Operand.tmp u) (.iface 44 (.int .i64 n)) (.iface 44 (.int .i64 n))) h K=K (.bool (n==n)) h:=by kernel_rfl
theorem asR (a:Addr) (h:Hp) (K:Value→Hp→Prop):semW Tryz.prog (Instr.typeAssert (.iface 59 (.pointer (some a))) 29 59 true) h K=K (.tuple #[.pointer (some a),.bool true]) h:=by kernel_rfl
theorem asN (h:Hp) (K:Value→Hp→Prop):semW Tryz.prog (Instr.typeAssert .nilIface 29 59 true) h K=K (.tuple #[.pointer none,.bool false]) h:=by kernel_rfl
theorem sameErr_hc (h:Hp) (n:Int):HCp Tryz.prog 38 [.iface 44 (.int .i64 n),.iface 44 (.int .i64 n)] h (.bool true):=by
 refine hcp_of mixed Tryz.func38 (by kernel_rfl) (t_spandrellaw9_sameErr_eq _ _) ?_
 unfold t_spandrellaw9_sameErr
 refine sem_bool (fun K' hK=>by rw [eqIN]; exact hK) ?_
 refine cond_f rfl ?_
 refine sem_bool (fun K' hK=>by rw [eqIN]; exact hK) ?_
 refine cond_f rfl ?_
 refine sem_bool (b:=true) (fun K' hK=>by rw [eqEE]; simpa using hK) ?_
 exact ⟨rfl,rfl⟩
def wants (a w:Nat) (e:Option (Nat × Nat)):Bool:=if w=0 then decide (e=none) else decide (e=some (a,w))
theorem refused_hc {h:Hp} (p:Pow10 h) {ev:Value} {e:Option (Nat × Nat)} (v:ErrAt h ev e) (hs:∀ q,e=some q→q.1≤2^60∧q.2<10^18) (a w:Nat) :
  HC Tryz.prog 12 #[ev,.agg #[.int .i64 (a:Int),.int .i64 (w:Int)]] h fun r h'=>r=.bool (wants a w e)∧Ext h h':=by
 refine hcr_of (args:=[ev,.agg #[.int .i64 (a:Int),.int .i64 (w:Int)]]) mixed Tryz.func12 (by kernel_rfl) (t_spandrellaw9_refused_eq ev a w) ?_
 unfold t_spandrellaw9_refused
 refine newB ?_
 intro h1 b1 e1 z1
 rw [add_box]
 refine loads_box b1 ((w:Int),()) rfl ?_
 dsimp only [flat,unc,unc1,nA,cA]
 cases e with
 | none =>
  have v:ev=.nilIface:=v
  subst v
  refine cond_mk (fun q=>?_) (fun q=>?_)
  ·have q:w=0:=eqN_t q
   refine sem_bool (fun K' hK=>by rw [eqNN]; exact hK) ?_
   exact ⟨by unfold wants; rw [if_pos q]; rfl,e1⟩
  ·have q:¬ w=0:=eqN_f q
   show semW _ _ _ _
   rw [asN]
   refine ⟨(none,false,()),rfl,?_⟩
   dsimp only [flat,unc,unc1,nA,cA]
   refine cond_f rfl ?_
   exact ⟨by unfold wants; rw [if_neg q]; rfl,e1⟩
 | some er =>
  obtain ⟨ax,rfl,bx⟩:=v
  obtain ⟨hs1,hs2⟩:=hs er rfl
  have bx1:=bx.keep e1 (by simp)
  refine cond_mk (fun q=>?_) (fun q=>?_)
  ·have q:w=0:=eqN_t q
   refine sem_bool (fun K' hK=>by rw [eqIN]; exact hK) ?_
   exact ⟨by unfold wants; rw [if_pos q]; rfl,e1⟩
  have q:¬ w=0:=eqN_f q
  have ww:wants a w (some er)=decide (er=(a,w)):=by
   unfold wants
   rw [if_neg q]
   simp
  show semW _ _ _ _
  rw [asR]
  refine ⟨(some ⟨ax,0,none⟩,true,()),rfl,?_⟩
  dsimp only [flat,unc,unc1,nA,cA]
  refine cond_t rfl ?_
  refine cond_t rfl ?_
  refine osome_mk rfl ?_
  refine loads_box bx1 ((er.1:Int),()) rfl ?_
  dsimp only [flat,unc,unc1,nA,cA]
  refine loads_box b1 ((a:Int),()) rfl ?_
  dsimp only [flat,unc,unc1,nA,cA]
  refine cond_sw (fun r=>?_) (fun r=>?_)
  ·have r:¬ er.1=a:=eqN_f r
   exact ⟨by rw [ww,decide_eq_false (fun e=>r (by rw [e]))],e1⟩
  have r:er.1=a:=eqN_t r
  refine osome_mk rfl ?_
  rw [add_box]
  refine loads_box bx1 ((er.2:Int),()) rfl ?_
  dsimp only [flat,unc,unc1,nA,cA]
  refine loads_box b1 ((w:Int),()) rfl ?_
  dsimp only [flat,unc,unc1,nA,cA]
  refine cond_sw (fun s=>?_) (fun s=>?_)
  ·have s:¬ er.2=w:=eqN_f s
   exact ⟨by rw [ww,decide_eq_false (fun e=>s (by rw [e]))],e1⟩
  have s:er.2=w:=eqN_t s
  have ok:wants a w (some er)=true:=by
   rw [ww]
   exact decide_eq_true (Prod.ext r s)
  rw [ok]
  have p1:=p.keep e1 (by simp)
  refine call_of (error_hc p1 hs1 hs2 bx1) ?_
  rintro _ h2 ⟨t,rfl,ht,e2⟩
  refine ⟨(t,()),rfl,?_⟩
  dsimp only [flat,unc,unc1,nA,cA]
  have b12:=b1.keep e2 (by simp)
  have bx2:=bx1.keep e2 (by simp)
  refine ⟨⟨b12.cells _ rfl,bx2.cells _ rfl,b12.cells _ rfl,bx2.cells _ rfl,trivial⟩,?_⟩
  refine cond_t (by rw [ByteArray.toList_eq]; simpa using ht) ?_
  refine osome_mk rfl ?_
  refine loads_box bx2 ((er.2:Int),()) rfl ?_
  dsimp only [flat,unc,unc1,nA,cA]
  refine call_p (unwrap_hc bx2) (.iface 44 (.int .i64 (er.2:Int)),()) rfl ?_
  dsimp only [flat,unc,unc1,nA,cA]
  refine ⟨⟨bx2.cells _ rfl,b12.cells _ rfl,bx2.cells _ rfl,b12.cells _ rfl,bx2.cells _ rfl,trivial⟩,?_⟩
  refine call_bool (sameErr_hc h2 er.2) ?_
  refine ⟨⟨bx2.cells _ rfl,b12.cells _ rfl,bx2.cells _ rfl,b12.cells _ rfl,bx2.cells _ rfl,trivial⟩,?_⟩
  refine cond_t rfl ?_
  refine loads_box b12 ((w:Int),()) rfl ?_
  dsimp only [flat,unc,unc1,nA,cA]
  rw [s] at bx2
  refine call_bool (is_hc bx2) ?_
  refine ⟨⟨b12.cells _ rfl,bx2.cells _ (by rw [s]; rfl),b12.cells _ rfl,bx2.cells _ (by rw [s]; rfl),b12.cells _ rfl,bx2.cells _ rfl,trivial⟩,?_⟩
  exact ⟨rfl,e1.trans e2⟩
structure Fx (h:Hp):Prop where
 tb:TabN h
 ld:Laid h
 pw:Pow10 h
 mx:∃ m:Int,cellsAt h ⟨2,0,none⟩ 0 [.int .i64 m]
theorem Fx.keep {h h':Hp} (f:Fx h) (e:Ext h h'):Fx h':=by
 obtain ⟨m,b⟩:=f.mx
 exact ⟨f.tb.keep e (by simp),f.ld.ext e,f.pw.keep e (by simp),m,cellsAt_keep e (by simp) _ _ b⟩
theorem Fx.asm {h:Hp} (f:Fx h) (s:ByteArray):HC Tryz.prog 10 #[.string s] h (asmQ s h):=by
 obtain ⟨m,b⟩:=f.mx
 refine asm_hc s h f.ld f.tb m (fun W hW=>?_)
 subst hW
 rw [cell_heap]
 exact b.1
theorem ErrAt.keep' {h h':Hp} {v:Value} {e:Option (Nat × Nat)} (E:ErrAt h v e) (k:Ext h h'):ErrAt h' v e:=by
 cases e with
 | none=>exact E
 | some e =>
  obtain ⟨a,h1,h2⟩:=E
  exact ⟨a,h1,h2.keep k (by simp)⟩
theorem says_hc (s:ByteArray) (l w:Nat) (h:Hp) (f:Fx h):HC Tryz.prog 17 #[.string s,.int .i64 (l:Int),.int .i64 (w:Int)] h fun v h'=>v=.bool (wants l w (errO (asmS s)))∧Ext h h':=by
 refine hcr_of (args:=[.string s,.int .i64 (l:Int),.int .i64 (w:Int)]) mixed Tryz.func17 (by kernel_rfl) (t_spandrellaw9_says_eq s l w) ?_
 unfold t_spandrellaw9_says
 refine call_of (f.asm s) ?_
 rintro _ h1 ⟨e1,a,b,c,d,ev,rfl,U,E⟩
 refine ⟨((a.p,a.l,a.c),(b.p,b.l,b.c),(c.p,c.l,c.c),(d.p,d.l,d.c),ev,()),rfl,?_⟩
 dsimp only [flat,unc,unc1,nA,cA]
 refine newB ?_
 intro h2 b2 e2 z2
 refine stores_of b2 rfl (by simp) ?_
 intro h3 b3 k3 z3
 have e13:Ext h1 h3:=Ch.trans e2 k3 (fun i hi hl=>by simp at hi; omega)
 have e03:=e1.trans e13
 refine call_of (refused_hc (f.keep e03).pw (E.keep' e13) (fun q hq=>asm_bound hq) l w) ?_
 rintro _ h4 ⟨rfl,e4⟩
 refine ⟨(wants l w (errO (asmS s)),()),rfl,?_⟩
 exact ⟨rfl,e03.trans e4⟩
/-! Spans. -/
def spT (x:Itm):Bool:=decide (x.kind=2) && spn x.inst.op
def spanL (l:List Itm):Nat:=(l.filter spT).length
theorem spanL_take (l:List Itm) (i:Nat) (hi:i<l.length):spanL (l.take (i+1))=spanL (l.take i)+if spT l[i]=true then 1 else 0:=by
 unfold spanL
 rw [List.take_succ_eq_append_getElem hi,List.filter_append,List.length_append]
 congr 1
 by_cases hk:spT l[i]=true <;> simp [hk]
theorem spanL_le (l:List Itm):spanL l≤l.length:=List.length_filter_le _ _
theorem spans9_hc {h:Hp} (t:Tab h) {a b c d:Sli} {u:Unt} (v:UntAt h a b c d u):HC Tryz.prog 21 #[untV a b c d] h fun w h'=>w=.int .i64 ((if untR u=0 then spanL u.text else 0:Nat):Int)∧Ext h h':=by
 refine hcr_of (args:=[untV a b c d]) mixed Tryz.func21 (by kernel_rfl) (t_unit_Spans_eq a.p a.l a.c b.p b.l b.c c.p c.l c.c d.p d.l d.c) ?_
 unfold t_unit_Spans
 refine newB ?_
 intro h1 b1 e1 z1
 have b1:Box h1 h.size 27 [a.v,b.v,c.v,d.v]:=b1
 refine loads_box b1 ((a.p,a.l,a.c),(b.p,b.l,b.c),(c.p,c.l,c.c),(d.p,d.l,d.c),()) rfl ?_
 dsimp only [flat,unc,unc1,nA,cA]
 refine call_of (unitRight_hc (t.keep e1 (by simp)) (v.keep e1)) ?_
 rintro _ h2 ⟨rfl,e2⟩
 refine ⟨((untR u:Int),()),rfl,?_⟩
 dsimp only [flat,unc,unc1,nA,cA]
 have e02:=e1.trans e2
 refine cond_mk (fun r=>?_) (fun r=>?_)
 ·have r:¬ untR u=0:=by simpa using r
  rw [if_neg r]
  exact ⟨rfl,e02⟩
 have r:untR u=0:=by simpa using r
 rw [if_pos r]
 have b2:=b1.keep e2 (by simp)
 refine loads_box b2 ((a.p,a.l,a.c),()) rfl ?_
 dsimp only [flat,unc,unc1,nA,cA]
 have n:=v.text.len
 have m1:=v.text.many
 refine loop_of (cs:=[(false,[.int .i64]),(false,[.int .i64])]) (fun y m h'=>∃ i:Nat,y.2.1=(i:Int)∧y.1=(spanL (u.text.take i):Int)∧m=u.text.length-i∧i≤u.text.length∧Ext h h') ((0:Int),(0:Int),()) u.text.length rfl
  ⟨0,rfl,rfl,rfl,by omega,e02⟩ ?_
 rintro ⟨n1,n2,⟨⟩⟩ m g ⟨i,hi,hn,rfl,hle,eg⟩
 simp only at hi hn
 subst hi hn
 dsimp only [flat,unc,unc1,nA,cA]
 refine cond_mk (fun q=>?_) (fun q=>?_)
 ·have q:=of_decide_eq_true q
  have hil:i<u.text.length:=by omega
  obtain ⟨aa,pp,ll,cc,rfl',hc,va⟩:=(v.text.keep eg).cells i hil
  have ht:=spanL_take u.text i hil
  have hsl:spanL (u.text.take i)≤i:=by have:=spanL_le (u.text.take i); rw [List.length_take] at this; omega
  generalize u.text[i]=x at hc va ht
  refine need_of ⟨by omega,by omega⟩ (osome_mk rfl' ?_)
  rw [show Int.toNat (i:Int)=i by omega]
  refine loads_of (x.kind,x.name,x.inst.op,x.inst.a,x.inst.b,x.inst.n,x.inst.form,(pp,ll,cc),(x.e.num:Int),x.n,()) hc ?_
  dsimp only [flat,unc,unc1,nA,cA]
  refine newB ?_
  intro g1 c1 f1 y1
  refine stores_of c1 rfl (by simp) ?_
  intro g2 c2 k2 y2
  have c2:Box g2 g.size 96 (encI pp ll cc x):=c2
  have f2:Ext g g2:=Ch.trans f1 k2 (fun i hi hl=>by simp at hi; omega)
  have eg2:=eg.trans f2
  refine loads_box c2 (x.kind,()) rfl ?_
  dsimp only [flat,unc,unc1,nA,cA]
  refine cond_mk (fun r=>?_) (fun r=>?_)
  ·have r:x.kind=2:=by simpa using r
   rw [add_box]
   refine loads_box c2 (x.inst.op,()) rfl ?_
   dsimp only [flat,unc,unc1,nA,cA]
   refine call_of (spans_hc (t.keep eg2 (by simp)) x.inst.op va.op.1 va.op.2) ?_
   rintro _ g3 ⟨rfl,f3⟩
   refine ⟨(spn x.inst.op,()),rfl,?_⟩
   dsimp only [flat,unc,unc1,nA,cA]
   refine cond_mk (fun s=>?_) (fun s=>?_)
   ·rw [if_pos (by unfold spT; rw [decide_eq_true r,s]; rfl)] at ht
    refine again_mk (cs:=[(false,[.int .i64]),(false,[.int .i64])]) (((spanL (u.text.take i)+1:Nat):Int),((i+1:Nat):Int),()) (u.text.length-(i+1)) rfl (by omega) (by rw [wrap_i64 (by omega) (by omega),wrap_i64 (by omega) (by omega)]; rfl) ?_
    exact ⟨i+1,rfl,by rw [ht],rfl,by omega,eg2.trans f3⟩
   ·rw [if_neg (by unfold spT; rw [decide_eq_true r,s]; decide)] at ht
    refine again_mk (cs:=[(false,[.int .i64]),(false,[.int .i64])]) ((spanL (u.text.take i):Int),((i+1:Nat):Int),()) (u.text.length-(i+1)) rfl (by omega) (by rw [wrap_i64 (by omega) (by omega)]; rfl) ?_
    exact ⟨i+1,rfl,by rw [ht]; rfl,rfl,by omega,eg2.trans f3⟩
  ·have r:¬ x.kind=2:=by simpa using r
   rw [if_neg (by unfold spT; rw [decide_eq_false r]; simp)] at ht
   refine again_mk (cs:=[(false,[.int .i64]),(false,[.int .i64])]) ((spanL (u.text.take i):Int),((i+1:Nat):Int),()) (u.text.length-(i+1)) rfl (by omega) (by rw [wrap_i64 (by omega) (by omega)]; rfl) ?_
   exact ⟨i+1,rfl,by rw [ht]; rfl,rfl,by omega,eg2⟩
 ·have q:=of_decide_eq_false q
  have:i=u.text.length:=by omega
  subst this
  rw [List.take_length]
  exact ⟨rfl,eg⟩
theorem ka2:errO (asmS ⟨#[97,58,32,110,111,112,10,97,58,32,110,111,112]⟩)=some (2,22):=by kernel_rfl
theorem kb:errO (asmS ⟨#[103,108,111,98,97,108,32,98]⟩)=some (1,23):=by kernel_rfl
theorem kc:errO (asmS ⟨#[103,108,111,98,97,108,32,98,10,110,111,112,101]⟩)=some (2,20):=by kernel_rfl
theorem kd:errO (asmS ⟨#[114,49,58,32,110,111,112]⟩)=some (1,21):=by kernel_rfl
theorem ke:errO (asmS ⟨#[101,113,117,32,120,44,32,120,42,120]⟩)=some (1,21):=by kernel_rfl
theorem kf:errO (asmS ⟨#[120,58,32,101,113,117,32,120,44,32,49]⟩)=some (1,22):=by kernel_rfl
def s1:ByteArray:=⟨#[97,58,32,106,109,112,32,97]⟩
def s2:ByteArray:=⟨#[115,101,99,116,105,111,110,32,100,97,116,97,10,120,58,32,119,111,114,100,32,121,44,32,51,10,103,108,111,98,97,108,32,120,10,103,108,111,98,97,108,32,120]⟩
def u1:Unt:=(outR (asmS s1)).1
def u2:Unt:=(outR (asmS s2)).1
theorem k1:errO (asmS s1)=none:=by kernel_rfl
theorem k1r:untR u1=0:=by kernel_rfl
theorem k1l:u1.text.length=2:=by kernel_rfl
theorem k1s:spanL u1.text=1:=by kernel_rfl
theorem k1n:(u1.text.map (·.name)).take 1=[⟨#[97]⟩]:=by kernel_rfl
theorem k1o:(u1.text.map (·.inst.op)).drop 1=[40]:=by kernel_rfl
theorem k2:errO (asmS s2)=none:=by kernel_rfl
theorem k2t:u2.text.length=0:=by kernel_rfl
theorem k2d:u2.data.length=3:=by kernel_rfl
theorem k2g:u2.globs=[⟨#[120]⟩]:=by kernel_rfl
theorem k2n:allN u2=[⟨#[120]⟩]:=by kernel_rfl
theorem k2r:untR u2=0:=by kernel_rfl
theorem k3:asmS ⟨#[]⟩=.ok unt0:=by kernel_rfl
theorem k4:untR ⟨[],[],[],[⟨#[97]⟩]⟩=31:=by kernel_rfl
theorem add_zz (a:Addr):a.add 0=a:=by unfold Addr.add; simp
theorem k1xy:∃ x y,u1.text=[x,y]∧x.name=⟨#[97]⟩∧y.inst.op=40:=by
 obtain ⟨x,y,h⟩:∃ x y,u1.text=[x,y]:=by
  have hl:=k1l
  match hu:u1.text,hl with
  | [x,y],_=>exact ⟨x,y,rfl⟩
 have h1:=k1n
 have h2:=k1o
 rw [h] at h1 h2
 simp at h1 h2
 exact ⟨x,y,h,h1,h2⟩
theorem known_hc (h:Hp) (f:Fx h):HC Tryz.prog 14 #[] h fun v h'=>v=.bool true∧Ext h h':=by
 refine hcr_of (args:=[]) mixed Tryz.func14 (by kernel_rfl) t_spandrellaw9_known_eq ?_
 unfold t_spandrellaw9_known
 refine call_of (f.asm s1) ?_
 rintro _ h1 ⟨e1,a,b,c,d,ev,rfl,U,E⟩
 rw [k1] at E
 have E:ev=.nilIface:=E
 subst E
 refine ⟨((a.p,a.l,a.c),(b.p,b.l,b.c),(c.p,c.l,c.c),(d.p,d.l,d.c),.nilIface,()),rfl,?_⟩
 dsimp only [flat,unc,unc1,nA,cA]
 refine newB ?_
 intro h2 b2 e2 z2
 refine stores_of b2 rfl (by simp) ?_
 intro h3 b3 k3 z3
 have b3:Box h3 h1.size 27 [a.v,b.v,c.v,d.v]:=b3
 have e13:Ext h1 h3:=Ch.trans e2 k3 (fun i hi hl=>by simp at hi; omega)
 have e03:=e1.trans e13
 have v:UntAt h3 a b c d u1:=(U.at (out_sz (by decide))).keep e13
 obtain ⟨x,y,hxy,hx,hy⟩:=k1xy
 have hl:=v.text.len
 have cx:=v.text.cells 0 (by rw [hxy]; simp)
 have cy:=v.text.cells 1 (by rw [hxy]; simp)
 obtain ⟨aa,q,m,cc,ha,hcx,-⟩:=cx
 obtain ⟨ab,q',m',cc',hb,hcy,-⟩:=cy
 rw [ha] at hb
 cases hb
 simp only [hxy,List.getElem_cons_zero,List.getElem_cons_succ,Nat.zero_mul,Nat.one_mul,add_zz] at hcx hcy
 rw [hxy] at hl
 have hl:a.l=2:=hl
 refine sem_bool (fun K' hK=>by rw [eqNN]; exact hK) ?_
 refine cond_t rfl ?_
 refine loads_box b3 ((a.p,a.l,a.c),()) rfl ?_
 dsimp only [flat,unc,unc1,nA,cA]
 refine cond_t (by rw [hl]; rfl) ?_
 refine loads_box b3 ((a.p,a.l,a.c),()) rfl ?_
 dsimp only [flat,unc,unc1,nA,cA]
 refine need_of ⟨by omega,by omega⟩ (osome_mk ha ?_)
 refine loads_of (x.name,()) ⟨hcx.2.1,trivial⟩ ?_
 dsimp only [flat,unc,unc1,nA,cA]
 refine cond_t (by rw [hx,ByteArray.toList_eq]; rfl) ?_
 refine loads_box b3 ((a.p,a.l,a.c),()) rfl ?_
 dsimp only [flat,unc,unc1,nA,cA]
 refine need_of ⟨by omega,by omega⟩ (osome_mk ha ?_)
 refine loads_of (y.inst.op,()) ⟨by rw [add_add]; exact hcy.2.2.1,trivial⟩ ?_
 dsimp only [flat,unc,unc1,nA,cA]
 refine cond_t (by rw [hy]; rfl) ?_
 refine loads_box b3 ((a.p,a.l,a.c),(b.p,b.l,b.c),(c.p,c.l,c.c),(d.p,d.l,d.c),()) rfl ?_
 dsimp only [flat,unc,unc1,nA,cA]
 refine call_of (spans9_hc (f.keep e03).tb.tab v) ?_
 rintro _ h4 ⟨rfl,e4⟩
 rw [k1r,k1s,if_pos rfl]
 refine ⟨(((1:Nat):Int),()),rfl,?_⟩
 dsimp only [flat,unc,unc1,nA,cA]
 refine cond_t rfl ?_
 have b4:=b3.keep e4 (by simp)
 refine loads_box b4 ((a.p,a.l,a.c),(b.p,b.l,b.c),(c.p,c.l,c.c),(d.p,d.l,d.c),()) rfl ?_
 dsimp only [flat,unc,unc1,nA,cA]
 refine call_of (unitRight_hc (f.keep (e03.trans e4)).tb.tab (v.keep e4)) ?_
 rintro _ h5 ⟨rfl,e5⟩
 rw [k1r]
 refine ⟨(((0:Nat):Int),()),rfl,?_⟩
 dsimp only [flat,unc,unc1,nA,cA]
 refine cond_t rfl ?_
 have e05:=(e03.trans e4).trans e5
 refine call_of (says_hc _ 2 22 _ (f.keep e05)) ?_
 rintro _ h6 ⟨rfl,e6⟩
 rw [ka2]
 refine ⟨(true,()),rfl,?_⟩
 exact ⟨rfl,e05.trans e6⟩
end Go.Sx.Ob
set_option linter.unusedVariables false
set_option linter.unusedSimpArgs false
set_option maxRecDepth 100000
namespace Go.Sx
open Go.Proofs Go.Sort Go.Maps Go.Sx.Ob
def sortB (xs:List ByteArray):List ByteArray:=((xs.map (·.data.toList)).mergeSort fun x y=>decide (x≤y)).map fun k=>⟨k.toArray⟩
theorem putCells_mid (pre mid rest:List Value) (d:Array (List UInt8)) (hd:d.size=mid.length):putCells encStr pre.length d (pre++(mid++rest)).toArray=(pre++(d.toList.map encStr++rest)).toArray:=by
 apply Array.ext_getElem?
 intro k
 unfold putCells
 rw [Array.getElem?_mapIdx]
 simp only [List.getElem?_toArray]
 by_cases h1:k<pre.length
 ·rw [List.getElem?_append_left h1,List.getElem?_append_left h1,List.getElem?_eq_getElem h1,Option.map_some,if_neg (by omega)]
 ·rw [List.getElem?_append_right (l₁:=pre) (l₂:=mid++rest) (by omega),List.getElem?_append_right (l₁:=pre) (l₂:=d.toList.map encStr++rest) (by omega)]
  by_cases h2:k-pre.length<mid.length
  ·rw [List.getElem?_append_left (l₁:=mid) h2,List.getElem?_append_left (l₁:=d.toList.map encStr) (by simp; omega),List.getElem?_eq_getElem h2,Option.map_some,if_pos (by omega),List.getElem?_map]
   rw [getElem!_pos d (k-pre.length) (by omega),Array.getElem?_toList,Array.getElem?_eq_getElem (by omega)]
   rfl
  ·rw [List.getElem?_append_right (l₁:=mid) (by omega),List.getElem?_append_right (l₁:=d.toList.map encStr) (by simp; omega)]
   have e:(d.toList.map encStr).length=mid.length:=by simp [hd]
   rw [e]
   cases hr:rest[k-pre.length-mid.length]? with
   | none=>rfl
   | some v=>rw [Option.map_some,if_neg (by omega)]
theorem flat_enS (xs:List ByteArray):(xs.map enS).flatten=xs.map Value.string:=by
 induction xs with
 | nil=>rfl
 | cons x xs ih=>rw [List.map_cons,List.flatten_cons,ih]; rfl
theorem sort_hc {h:Hp} {b:Nat} {p:Option Addr} {l c:Nat} {xs:List ByteArray} (s:SL h b 9 1 p l c (xs.map enS)) (hl:l≤2^40) :
  HC Tryz.prog 43 #[.slice p l c] h fun w h'=>w=.tuple #[]∧SL h' b 9 1 p l c ((sortB xs).map enS)∧Ch (blkOf p) h h':=by
 have hll:l=xs.length:=by rw [s.1,List.length_map]
 have hnil:xs=[]→HC Tryz.prog 43 #[.slice p l c] h fun w h'=>w=.tuple #[]∧SL h' b 9 1 p l c ((sortB xs).map enS)∧Ch (blkOf p) h h':=by
  intro hx
  subst hx
  have hl0:l=0:=hll
  subst hl0
  intro W hW
  refine (AnyM.slices_Sort_string_none Tryz.sort113 p c W).mono ?_
  rintro e w' ⟨rfl,rfl⟩
  have e0:sortB []=[]:=by simp [sortB]
  exact ⟨_,rfl,SameO.refl _,rfl,by rw [hW,e0]; exact s,by rw [hW]; exact Ch.refl _ _⟩
 cases p with
 | none =>
  have:xs=[]:=by have:=s.2.2.2; simpa using this
  exact hnil this
 | some a =>
  obtain ⟨g,pre,rest,rfl,hbg,hlc,hbox,hr⟩:=s.2.2
  intro W hW
  subst hW
  rw [flat_enS] at hbox
  have hH:Holds encStr W g pre.length (xs.map (·.data.toList)).toArray:=by
   intro j hj
   have hj:j<xs.length:=by simpa using hj
   refine ⟨?_,hbox.frozen⟩
   rw [cell_heap,hbox.cell,List.getElem?_append_right (by omega),show pre.length+j-pre.length=j by omega,List.getElem?_append_left (by simpa using hj),List.getElem?_map,List.getElem?_eq_getElem hj,getElem!_pos _ j (by simpa using hj)]
   simp [encStr]
  have hgl:=hbox.lt
  have hc:=AnyM.slices_Sort_string Tryz.sort113 g pre.length c (xs.map (·.data.toList)) W hH hgl (by simp; omega)
  rw [List.length_map,← hll] at hc
  refine Calls.mono hc ?_
  rintro e w' ⟨rfl,n,os,rfl⟩
  have hheap:(Go.Sort.grow (Go.Sort.putRow encStr (Go.Sort.ahead W n) g pre.length ((xs.map (·.data.toList)).mergeSort fun x y=>decide (x≤y)).toArray) os).heap=(W.heap.modify g (onCells (putCells encStr pre.length ((xs.map (·.data.toList)).mergeSort fun x y=>decide (x≤y)).toArray)))++os:=rfl
  refine ⟨_,rfl,⟨rfl,rfl,rfl⟩,rfl,?_,?_⟩
  ·rw [hheap]
   refine ⟨by rw [List.length_map]; unfold sortB; rw [List.length_map,List.length_mergeSort,List.length_map]; exact hll,fun x hx=>?_,g,pre,rest,rfl,hbg,hlc,?_,hr⟩
   ·obtain ⟨y,_,rfl⟩:=List.mem_map.1 hx
    rfl
   ·unfold Box
    unfold Box at hbox
    rw [Array.getElem?_append,if_pos (by simpa using hgl),Array.getElem?_modify,if_pos rfl,hbox]
    show some (Obj.cells (putCells encStr pre.length _ (pre++(xs.map Value.string++rest)).toArray) 9 (0,0))=_
    have e:((xs.map (·.data.toList)).mergeSort fun x y=>decide (x≤y)).toArray.toList.map encStr=(sortB xs).map Value.string:=by
     unfold sortB
     rw [List.map_map]
     rfl
    rw [putCells_mid pre (xs.map Value.string) rest _ (by simp [List.length_mergeSort]),flat_enS,e]
  ·rw [hheap]
   refine ⟨by simp,fun i hi hn=>?_⟩
   rw [Array.getElem?_append,if_pos (by simpa using hi),Array.getElem?_modify,if_neg]
   intro e
   subst e
   exact hn (by simp [blkOf])
namespace Ob
end Ob
end Go.Sx
set_option linter.unusedVariables false
set_option linter.unusedSimpArgs false
set_option maxRecDepth 100000
namespace Go.Sx.Ob
open Go.Proofs
theorem cells_back {h:Hp} {a:Addr}:∀ (vs:List Value) (o i:Nat),cellsAt h (a.add o) i vs→cellsAt h a (o+i) vs
 | [],o,i,_=>trivial
 | v::vs,o,i,⟨h1,h2⟩=>⟨by rw [← add_add]; exact h1,by have:=cells_back vs o (i+1) h2; rwa [← Nat.add_assoc] at this⟩
theorem cells_app {h:Hp} {a:Addr}:∀ (A B:List Value) (i:Nat),cellsAt h a i A→cellsAt h a (i+A.length) B→cellsAt h a i (A++B)
 | [],B,i,_,hb=>by simpa using hb
 | v::A,B,i,⟨h1,h2⟩,hb=>⟨h1,cells_app A B (i+1) h2 (by rw [show i+1+A.length=i+(v::A).length by simp; omega]; exact hb)⟩
theorem cells_join {h:Hp} {a:Addr} {sz:Nat} {P:Nat→List Value→Prop}:∀ n:Nat,(∀ i,i<n→∃ ys,ys.length=sz∧cellsAt h (a.add (i*sz)) 0 ys∧P i ys) →
  ∃ xs:List (List Value),xs.length=n∧(∀ y,y∈xs→y.length=sz)∧cellsAt h a 0 xs.flatten∧xs.flatten.length=n*sz∧∀ i,(hi:i<xs.length)→P i xs[i]
 | 0,_=>⟨[],rfl,by simp,trivial,by simp,fun i hi=>absurd hi (by simp)⟩
 | n+1,hc=>by
  obtain ⟨xs,h1,h2,h3,h4,h5⟩:=cells_join n fun i hi=>hc i (by omega)
  obtain ⟨ys,g1,g2,g3⟩:=hc n (by omega)
  refine ⟨xs++[ys],by simp [h1],fun y hy=>?_,?_,?_,fun i hi=>?_⟩
  ·rcases List.mem_append.1 hy with hy | hy
   ·exact h2 y hy
   ·rw [List.mem_singleton.1 hy]; exact g1
  ·rw [List.flatten_append]
   refine cells_app _ _ _ h3 ?_
   have:=cells_back _ _ _ g2
   simpa [h4] using this
  ·rw [List.flatten_append,List.length_append,h4]
   simp [g1,Nat.add_mul]
  ·rw [List.length_append] at hi
   by_cases hl:i<xs.length
   ·rw [List.getElem_append_left hl]
    exact h5 i hl
   ·have:i=n:=by simp at hi; omega
    subst this
    rw [List.getElem_append_right (by omega)]
    simpa [h1] using g3
def BaseAt (h:Hp) (p:Option Addr) (xs:List (List Value)):Prop :=
 match p with
 | none=>xs=[]
 | some a1=>cellsAt h a1 0 xs.flatten
theorem append_full {P:Program} {h:Hp} {K:Value→Hp→Prop} {t ty e:TypeId} {i:TypeInfo} {z:Value} (ht:P.underlying t=some (.slice e)) (hi:P.info? e=some i) (hz:i.zero=some z) (hzs:z.cells.size=i.size)
  {p:Option Addr} {l:Nat} {xs ys:List (List Value)} (hxl:l=xs.length) (hxs:∀ x,x∈xs→x.length=i.size) (hx:BaseAt h p xs) {a:Addr} {m cc:Nat} (hm:m=ys.length) (hm0:0<m) (hys:∀ y,y∈ys→y.length=i.size)
  (hc:cellsAt h a 0 ys.flatten) (hby:(2*(l+m)+1024)*i.bytes≤2^48) (hl:l+m≤2^48)
  (hk:∀ c' h',SL h' h.size e i.size (some ⟨h.size,0,none⟩) (l+m) c' (xs++ys)→Ext h h'→K (.slice (some ⟨h.size,0,none⟩) (l+m) c') h') :
  semW P (Builtin.append_ #[t,t] ty #[.slice p l l,.slice (some a) m cc]) h K:=by
 have hyl:ys.flatten.length=m*i.size:=by rw [flatten_length ys hys,hm]
 have hxll:xs.flatten.length=l*i.size:=by rw [flatten_length xs hxs,hxl]
 have hall:∀ x,x∈xs++ys→x.length=i.size:=fun x hx=>(List.mem_append.1 hx).elim (hxs x) (hys x)
 have hlen:l+m=(xs++ys).length:=by rw [List.length_append,← hxl,hm]
 have hz':(P.info? e).bind (·.zero)=some z:=by rw [hi]; exact hz
 have hroom:¬ l+m≤l:=by omega
 have hcap:¬ 281474976710656<Builtin.nextslicecap (l+m) l*i.bytes:=by
  have h1:=nextcap_le (need:=l+m) (old:=l) (by omega)
  have h2:=Nat.mul_le_mul_right i.bytes h1
  have h3:(2:Nat)^48=281474976710656:=rfl
  omega
 have hbig:¬ (9223372036854775807<(l:Int)+(m:Int)∧i.bytes=0):=by
  have h3:(2:Nat)^48=281474976710656:=rfl
  omega
 simp [Builtin.append_,semW_bind',semW_underlying ht,semW_sizeOf hi,cellsOf_info hi,Builtin.lenOf,Builtin.firstCells,hroom,semW_typeInfo hi,semW_zeroValue hz',askRoom,hbig,hcap,show m≠0 by omega]
 intro tt
 have hge:=cut_cap (l+m) l e tt
 generalize (Question.appendCap (l+m) l e).cut tt=nc at hge
 show semW P (if roomBytes<nc*i.bytes then mark Mark.noRoom else pure ()) h _
 have hroomy:∀ K':Unit→Hp→Prop,K' () h→semW P (if roomBytes<nc*i.bytes then mark Mark.noRoom else pure ()) h K':=by
  intro K' hk'
  split
  ·exact hk'
  ·exact hk'
 refine hroomy _ ?_
 have hold:∀ K':Array Value→Hp→Prop,K' xs.flatten.toArray h→semW P (match Value.slice p l l with
   | Value.slice (some a) len cap=>loadCells a (l*i.size)
   | Value.slice none len cap=>pure #[]
   | Value.string s=>pure ((Array.map (fun b=>Value.int IntKind.u8 ↑b.toNat) s.data).extract 0 l)
   | x => stuck "slice or string expected") h K' := by
  intro K' hk'
  cases p with
  | none =>
   have:xs=[]:=hx
   subst this
   exact hk'
  | some a1=>exact semW_loadCells hxll hx _ hk'
 refine hold _ ?_
 refine semW_loadCells hyl hc _ ?_
 rw [semW_map]
 refine hk nc _ ⟨hlen,hall,h.size,[],(Builtin.zeroCells z.cells (nc-(l+m))).toList,rfl,Nat.le_refl _,⟨hge.1,hge.2 (by omega)⟩,?_,?_⟩ (Ext.push h _)
 ·have e1:xs.flatten.toArray++(ys.flatten.toArray++Builtin.zeroCells z.cells (nc-(l+m)))=((xs++ys).flatten++(Builtin.zeroCells z.cells (nc-(l+m))).toList).toArray:=by
   apply Array.toList_inj.1; simp
  rw [e1]
  exact Box.new h e _
 ·rw [Array.length_toList,zeroCells_size,hzs]
theorem undI23:Tryz.prog.underlying 23=some (.slice 96):=by kernel_rfl
def IcAt (h:Hp) (p:Option Addr) (us:List Itm):Prop:=∀ i,(hi:i<us.length)→∃ a q m c,p=some a∧cellsAt h (a.add (i*10)) 0 (encI q m c us[i])
theorem IcAt.keep {h h':Hp} {p:Option Addr} {us:List Itm} (v:IcAt h p us) (k:Ext h h'):IcAt h' p us:=fun i hi=>by
 obtain ⟨a,q,m,c,ha,hc⟩:=v i hi
 exact ⟨a,q,m,c,ha,cellsAt_keep k (by simp) _ _ hc⟩
theorem VwI.ic {h:Hp} {p:Option Addr} {l:Nat} {us:List Itm} (v:VwI h p l us):IcAt h p us:=fun i hi=>by
 obtain ⟨a,q,m,c,ha,hc,_⟩:=v.cells i hi
 exact ⟨a,q,m,c,ha,hc⟩
theorem IcAt.join {h:Hp} {p:Option Addr} {us:List Itm} (v:IcAt h p us) (hn:0<us.length):∃ (a:Addr) (xs:List (List Value)),p=some a∧xs.length=us.length∧(∀ y,y∈xs→y.length=10)∧cellsAt h a 0 xs.flatten∧∀ i,(hi:i<us.length)→(hi':i<xs.length)→∃ q m c,xs[i]=encI q m c us[i]:=by
 obtain ⟨a,q,m,c,ha,hc⟩:=v 0 hn
 obtain ⟨xs,h1,h2,h3,h4,h5⟩:=cells_join (h:=h) (a:=a) (sz:=10) (P:=fun i ys=>∀ hi:i<us.length,∃ q m c,ys=encI q m c us[i]) us.length (fun i hi=>by
  obtain ⟨a',q,m,c,ha',hc⟩:=v i hi
  rw [ha] at ha'
  cases ha'
  exact ⟨_,rfl,hc,fun _=>⟨q,m,c,rfl⟩⟩)
 exact ⟨a,xs,ha,h1,h2,h3,fun i hi hi'=>h5 i hi' hi⟩
theorem app23 {L:Lp} {K:Value→Hp→Prop} {h:Hp} {k:Option Addr→Nat→Nat→T} {p q:Option Addr} {l m d:Nat} {us vs:List Itm} (v:IcAt h p us) (w:IcAt h q vs) (hl:l=us.length) (hm:m=vs.length) (hs:us.length+vs.length≤8192)
  (hk:∀ p' c' h',IcAt h' p' (us++vs)→Ext h h'→k p' (l+m) c' L K h') :
  T.sem Tryz.prog (Builtin.append_ #[23,23] 23 #[.slice p l l,.slice q m d]) false [(false,[.slice 0])] k L K h:=by
 obtain ⟨i,hi,hz,hsz,hby⟩:=inf_of itmZ
 refine sem_slice ?_
 by_cases hm0:m=0
 ·have:vs=[]:=List.eq_nil_of_length_eq_zero (by omega)
  subst this hm0
  have hfin:=hk p l h (by rw [List.append_nil]; exact v) (Ch.refl _ _)
  simp only [Nat.add_zero] at hfin
  cases p with
  | none =>
   cases q with
   | none =>
    simp [Builtin.append_,semW_bind',semW_underlying undI23,semW_sizeOf hi,cellsOf_info hi,Builtin.lenOf,Builtin.firstCells]
    exact ⟨_,_,_,rfl,hfin⟩
   | some b =>
    simp [Builtin.append_,semW_bind',semW_underlying undI23,semW_sizeOf hi,cellsOf_info hi,Builtin.lenOf,Builtin.firstCells]
    rw [semW_map]
    refine semW_loadCells (vs:=[]) rfl trivial _ ?_
    exact ⟨_,_,_,rfl,hfin⟩
  | some a =>
   cases q with
   | none =>
    simp [Builtin.append_,semW_bind',semW_underlying undI23,semW_sizeOf hi,cellsOf_info hi,Builtin.lenOf,Builtin.firstCells]
    exact ⟨_,_,_,rfl,hfin⟩
   | some b =>
    simp [Builtin.append_,semW_bind',semW_underlying undI23,semW_sizeOf hi,cellsOf_info hi,Builtin.lenOf,Builtin.firstCells]
    refine semW_loadCells (vs:=[]) rfl trivial _ ?_
    rw [semW_map]
    refine semW_storeCells _ [] _ _ _ trivial ?_
    exact ⟨_,_,_,rfl,hfin⟩
 ·obtain ⟨b,ys,rfl,y1,y2,y3,y4⟩:=w.join (by omega)
  have hxs:∃ xs:List (List Value),l=xs.length∧(∀ y,y∈xs→y.length=10)∧BaseAt h p xs∧∀ i,(hi:i<us.length)→(hi':i<xs.length)→∃ q m c,xs[i]=encI q m c us[i]:=by
   by_cases hu:us.length=0
   ·refine ⟨[],by simp; omega,by simp,?_,fun i hi=>by omega⟩
    cases p with
    | none=>rfl
    | some a=>trivial
   ·obtain ⟨a,xs,rfl,x1,x2,x3,x4⟩:=v.join (by omega)
    exact ⟨xs,by omega,x2,x3,x4⟩
  obtain ⟨xs,x1,x2,x3,x4⟩:=hxs
  refine append_full (ys:=ys) undI23 hi hz (by rw [hsz]; rfl) x1 (by rw [hsz]; exact x2) x3 (by omega) (by omega) (by rw [hsz]; exact y2) y3 (by rw [hby]; omega) (by omega) ?_
  intro c' h' s' e'
  rw [hsz] at s'
  refine ⟨_,_,_,rfl,hk _ c' h' (fun j hj=>?_) e'⟩
  have hj':j<(xs++ys).length:=by rw [List.length_append] at hj ⊢; omega
  obtain ⟨a,ha,hc⟩:=SL.cells s' hj'
  have hex:∃ q m c,(xs++ys)[j]=encI q m c (us++vs)[j]:=by
   by_cases hju:j<us.length
   ·obtain ⟨q,m,c,hx⟩:=x4 j hju (by omega)
    exact ⟨q,m,c,by rw [List.getElem_append_left (by omega),List.getElem_append_left hju]; exact hx⟩
   ·have hxu:xs.length=us.length:=by omega
    rw [List.length_append] at hj
    obtain ⟨q,m,c,hx⟩:=y4 (j-us.length) (by omega) (by omega)
    refine ⟨q,m,c,?_⟩
    rw [List.getElem_append_right (by omega),List.getElem_append_right (by omega)]
    simp only [hxu]
    exact hx
  obtain ⟨q,m,c,hx⟩:=hex
  rw [hx] at hc
  exact ⟨a,q,m,c,ha,hc⟩
theorem clip_hc {h:Hp} {p:Option Addr} {l c:Nat} (hlc:l≤c):HCp Tryz.prog 42 [.slice p l c] h (.slice p l l):=by
 refine hcp_of mixed Tryz.func42 (by kernel_rfl) (t_slices_Clip___api_Item_api_Item__eq p l c) ?_
 unfold t_slices_Clip___api_Item_api_Item_
 obtain ⟨i,hi,hz,hsz,hby⟩:=inf_of itmZ
 refine sem_slice ?_
 unfold Instr.sliceAt
 rw [semW_bind',semW_underlying undI23]
 show semW Tryz.prog (Instr.slice 23 (.slice p l c) none (some (.int .i64 (l:Int))) (some (.int .i64 (l:Int)))) h _
 unfold Instr.slice Instr.sliceBounds
 rw [semW_bind',semW_underlying undI23]
 show semW Tryz.prog ((Instr.sliceBound (.int .i64 (l:Int)) c .slice3Acap >>= fun m=>Instr.sliceBound (.int .i64 (l:Int)) m .slice3B >>= fun hh=>pure (0,hh,m)) >>= fun x=>_) h _
 rw [semW_bind',semW_bind',semW_sliceBound_none c _ rfl (by omega) (by omega),semW_bind',semW_sliceBound_none _ _ rfl (by omega) (by omega)]
 rw [semW_pure]
 dsimp only
 rw [semW_bind',semW_sizeOf hi]
 show ∃ p' l' c',(Value.slice _ _ _)=.slice p' l' c'∧_
 have hp:(if Int.toNat (l:Int)=0 then p else p.map (·.add (0*Tryz.prog.cellsOf 96)))=p:=by
  split
  ·rfl
  ·cases p with
   | none=>rfl
   | some a=>simp [add_zz]
 refine ⟨p,l,l,?_,rfl,rfl⟩
 rw [hp]
 simp
def namesR (u:Unt):List ByteArray:=if untR u=0 then sortB (allN u) else []
theorem allN_take (l:List Eqn) (i:Nat) (hi:i<l.length):(l.take (i+1)).map (·.1)=(l.take i).map (·.1)++[l[i].1]:=by
 rw [List.take_succ_eq_append_getElem hi,List.map_append]
 rfl
theorem untR_sizes {u:Unt} (h:untR u=0):u.text.length+u.data.length≤8192∧u.equs.length≤8192:=by
 unfold untR at h
 cases hm:untMany u with
 | true=>rw [hm] at h; simp at h
 | false =>
  unfold untMany at hm
  simp only [Bool.or_eq_false_iff,decide_eq_false_iff_not] at hm
  omega
theorem stable_mk {L:Lp} {K:Value→Hp→Prop} {h:Hp} {g off:Nat} {e:TypeId} {xs vs:List Value} {t:T} (b:Box h g e xs) (hv:(xs.drop off).take vs.length=vs) (ht:t L K h):T.stable [((⟨g,off,none⟩:Addr),vs)] t L K h :=
 ⟨⟨b.cells _ hv,trivial⟩,ht⟩
set_option maxHeartbeats 1000000 in
theorem names_hc {h:Hp} (t:Tab h) {a b c d:Sli} {u:Unt} (v:UntAt h a b c d u) (hac:a.l≤a.c):HC Tryz.prog 16 #[untV a b c d] h fun w h'=>(∃ p l c,w=.slice p l c∧SN h' h.size p l c (namesR u))∧Ext h h':=by
 refine hcr_of (args:=[untV a b c d]) mixed Tryz.func16 (by kernel_rfl) (t_unit_Names_eq a.p a.l a.c b.p b.l b.c c.p c.l c.c d.p d.l d.c) ?_
 unfold t_unit_Names
 refine newB ?_
 intro h1 b1 e1 z1
 have b1:Box h1 h.size 27 [a.v,b.v,c.v,d.v]:=b1
 refine loads_box b1 ((a.p,a.l,a.c),(b.p,b.l,b.c),(c.p,c.l,c.c),(d.p,d.l,d.c),()) rfl ?_
 dsimp only [flat,unc,unc1,nA,cA]
 refine call_of (unitRight_hc (t.keep e1 (by simp)) (v.keep e1)) ?_
 rintro _ h2 ⟨rfl,e2⟩
 refine ⟨((untR u:Int),()),rfl,?_⟩
 dsimp only [flat,unc,unc1,nA,cA]
 have e02:=e1.trans e2
 unfold namesR
 refine cond_mk (fun r=>?_) (fun r=>?_)
 ·have r:¬ untR u=0:=by simpa using r
  rw [if_neg r]
  exact ⟨⟨none,0,0,rfl,SL.nil _ _ _ _⟩,e02⟩
 have r:untR u=0:=by simpa using r
 rw [if_pos r]
 obtain ⟨hs1,hs2⟩:=untR_sizes r
 have b2:=b1.keep e2 (by simp)
 have n1:=v.text.len
 have n2:=v.data.len
 have n3:=v.equs.len
 refine loads_box b2 ((a.p,a.l,a.c),()) rfl ?_
 dsimp only [flat,unc,unc1,nA,cA]
 rw [add_box]
 refine loads_box b2 ((b.p,b.l,b.c),()) rfl ?_
 dsimp only [flat,unc,unc1,nA,cA]
 refine call_p (clip_hc hac) ((a.p,a.l,a.l),()) rfl ?_
 dsimp only [flat,unc,unc1,nA,cA]
 refine stable_mk b2 rfl ?_
 refine app23 (VwI.ic (v.text.keep e02)) (VwI.ic (v.data.keep e02)) n1 n2 hs1 ?_
 intro p3 c3 h3 ic e3
 have b3:=b2.keep e3 (by simp)
 have e03:=e02.trans e3
 refine stable_mk b3 rfl ?_
 generalize hits:u.text++u.data=its at ic
 have hil0:a.l+b.l=its.length:=by rw [← hits,List.length_append]; omega
 rw [hil0]
 have hal:allN u=labs its++u.equs.map (·.1):=by
  unfold allN
  rw [← hits]
  unfold labs
  rw [List.filter_append,List.map_append]
 have hz3:=e03.size
 refine loop_of (cs:=[(false,[.slice 0]),(false,[.int .i64])]) (fun y m h'=>∃ i:Nat,y.2.1=(i:Int)∧m=its.length-i∧i≤its.length∧Ext h3 h'∧(labs (its.take i)).length≤i∧SN h' h3.size y.1.1 y.1.2.1 y.1.2.2 (labs (its.take i))) ((none,0,0),(0:Int),()) its.length rfl
  ⟨0,rfl,rfl,by omega,Ch.refl _ _,by simp [labs],SL.nil _ _ _ _⟩ ?_
 rintro ⟨⟨p1,l2,l3⟩,n4,⟨⟩⟩ m h4 ⟨i,hi,rfl,hle,e4,hll,s⟩
 simp only at hi s
 subst hi
 dsimp only [flat,unc,unc1,nA,cA]
 have hz4:=e4.size
 have ic4:=ic.keep e4
 refine cond_mk (fun q=>?_) (fun q=>?_)
 ·have q:=of_decide_eq_true q
  have hil:i<its.length:=by omega
  obtain ⟨aa,pp,ll,cc,rfl',hc⟩:=ic4 i hil
  have ht:=labs_take its i hil
  generalize its[i]=x at hc ht
  refine need_of ⟨by omega,by omega⟩ (osome_mk rfl' ?_)
  rw [show Int.toNat (i:Int)=i by omega]
  refine loads_of (x.kind,x.name,x.inst.op,x.inst.a,x.inst.b,x.inst.n,x.inst.form,(pp,ll,cc),(x.e.num:Int),x.n,()) hc ?_
  dsimp only [flat,unc,unc1,nA,cA]
  refine newB ?_
  intro g1 c1 f1 y1
  refine stores_of c1 rfl (by simp) ?_
  intro g2 c2 k2 y2
  have c2:Box g2 h4.size 96 (encI pp ll cc x):=c2
  have f2:Ext h4 g2:=Ch.trans f1 k2 (fun i hi hl=>by simp at hi; omega)
  have e4g:=e4.trans f2
  have s5:SN g2 h3.size p1 l2 l3 (labs (its.take i)):=SL.keep s f2 (by simp)
  refine loads_box c2 (x.kind,()) rfl ?_
  dsimp only [flat,unc,unc1,nA,cA]
  refine cond_mk (fun r=>?_) (fun r=>?_)
  ·have r:x.kind=1:=by simpa using r
   rw [if_pos r] at ht
   rw [add_box]
   refine loads_box c2 (x.name,()) rfl ?_
   dsimp only [flat,unc,unc1,nA,cA]
   refine SN.push s5 x.name (by omega) (by have:=f2.size; omega) ?_
   intro p' c' h6 s6 k6
   refine again_mk (cs:=[(false,[.slice 0]),(false,[.int .i64])]) ((p',l2+1,c'),((i+1:Nat):Int),()) (its.length-(i+1)) rfl (by omega) (by rw [wrap_i64 (by omega) (by omega)]; rfl) ?_
   exact ⟨i+1,rfl,rfl,by omega,SN.ext e4g s5 (Nat.le_refl _) k6,by rw [ht,List.length_append]; simp; omega,by rw [ht]; exact s6⟩
  ·have r:¬ x.kind=1:=by simpa using r
   rw [if_neg r,List.append_nil] at ht
   refine again_mk (cs:=[(false,[.slice 0]),(false,[.int .i64])]) ((p1,l2,l3),((i+1:Nat):Int),()) (its.length-(i+1)) rfl (by omega) (by rw [wrap_i64 (by omega) (by omega)]; rfl) ?_
   exact ⟨i+1,rfl,rfl,by omega,e4g,by rw [ht]; omega,by rw [ht]; exact s5⟩
 ·have q:=of_decide_eq_false q
  have:i=its.length:=by omega
  subst this
  rw [List.take_length] at s
  have b4:=b3.keep e4 (by simp)
  rw [add_box]
  refine loads_box b4 ((c.p,c.l,c.c),()) rfl ?_
  dsimp only [flat,unc,unc1,nA,cA]
  have hlab:(labs its).length≤8192:=by have:=labs_len its; omega
  have e04:=e03.trans e4
  refine loop_of (cs:=[(false,[.slice 0]),(false,[.int .i64])]) (fun y m h'=>∃ i:Nat,y.2.1=(i:Int)∧m=u.equs.length-i∧i≤u.equs.length∧Ext h3 h'∧SN h' h3.size y.1.1 y.1.2.1 y.1.2.2 (labs its++(u.equs.take i).map (·.1))) ((p1,l2,l3),(0:Int),()) u.equs.length rfl
   ⟨0,rfl,rfl,by omega,e4,by simpa using s⟩ ?_
  rintro ⟨⟨p5,l5,c5⟩,n5,⟨⟩⟩ m h5 ⟨i,hi,rfl,hle,e5,s⟩
  simp only at hi s
  subst hi
  dsimp only [flat,unc,unc1,nA,cA]
  have ve:=v.equs.keep (e03.trans e5)
  have hz5:=e5.size
  have hlen:=SN.len s
  rw [List.length_append,List.length_map,List.length_take] at hlen
  refine cond_mk (fun q=>?_) (fun q=>?_)
  ·have q:=of_decide_eq_true q
   have hil:i<u.equs.length:=by omega
   obtain ⟨aa,pp,ll,cc,rfl',hc,va,hsz⟩:=ve.cells i hil
   have ht:=allN_take u.equs i hil
   generalize u.equs[i]=x at hc ht
   refine need_of ⟨by omega,by omega⟩ (osome_mk rfl' ?_)
   rw [show Int.toNat (i:Int)=i by omega]
   refine loads_of (x.1,(pp,ll,cc),(x.2.num:Int),()) hc ?_
   dsimp only [flat,unc,unc1,nA,cA]
   refine newB ?_
   intro g1 c1 f1 y1
   refine stores_of c1 rfl (by simp) ?_
   intro g2 c2 k2 y2
   have c2:Box g2 h5.size 99 (encE pp ll cc x):=c2
   have f2:Ext h5 g2:=Ch.trans f1 k2 (fun i hi hl=>by simp at hi; omega)
   have e5g:=e5.trans f2
   have s5:SN g2 h3.size p5 l5 c5 (labs its++(u.equs.take i).map (·.1)):=SL.keep s f2 (by simp)
   refine loads_box c2 (x.1,()) rfl ?_
   dsimp only [flat,unc,unc1,nA,cA]
   refine SN.push s5 x.1 (by rw [List.length_append,List.length_map,List.length_take]; omega) (by have:=f2.size; omega) ?_
   intro p' c' h6 s6 k6
   refine again_mk (cs:=[(false,[.slice 0]),(false,[.int .i64])]) ((p',l5+1,c'),((i+1:Nat):Int),()) (u.equs.length-(i+1)) rfl (by omega) (by rw [wrap_i64 (by omega) (by omega)]; rfl) ?_
   exact ⟨i+1,rfl,rfl,by omega,SN.ext e5g s5 (Nat.le_refl _) k6,by rw [ht,← List.append_assoc]; exact s6⟩
  ·have q:=of_decide_eq_false q
   have:i=u.equs.length:=by omega
   subst this
   rw [List.take_length] at s
   rw [← hal] at s
   refine call_of (sort_hc s (by omega)) ?_
   rintro _ h6 ⟨rfl,s6,k6⟩
   refine ⟨(),rfl,?_⟩
   exact ⟨⟨p5,l5,c5,rfl,SL.mono s6 (by omega)⟩,e03.trans (SN.ext e5 s (Nat.le_refl _) k6)⟩
theorem lines_rep:∀ (f n:Nat),n≤f→Ob.linesF f (List.replicate n 10)=List.replicate n []
 | 0,n,h=>by
  have:n=0:=by omega
  subst this
  rfl
 | f+1,0,h=>rfl
 | f+1,n+1,h=>by
  rw [List.replicate_succ]
  show _::Ob.linesF f _=_
  have ih:=lines_rep f n (by omega)
  have h1:((10:UInt8)::List.replicate n 10).takeWhile (·≠10)=[]:=by simp
  have h2:((10:UInt8)::List.replicate n 10).dropWhile (·≠10)=10::List.replicate n 10:=by simp
  rw [h1,h2,List.drop_one,List.tail_cons,ih]
  rfl
theorem linesL_rep {s:ByteArray} {n:Nat} (h:s.data.toList=List.replicate n 10):linesL s=List.replicate n ⟨#[]⟩:=by
 have hs:s.size=n:=by
  have h1:s.data.toList.length=s.size:=by simp
  rw [← h1,h,List.length_replicate]
 unfold linesL
 rw [h,lines_rep _ _ (by omega),List.map_replicate]
theorem line_nil (n:Nat):lineW wld0 n ⟨#[]⟩=.ok wld0:=by kernel_rfl
theorem runW_rep:∀ (n k:Nat),runW wld0 k (List.replicate n ⟨#[]⟩)=.ok wld0
 | 0,k=>rfl
 | n+1,k=>by
  rw [List.replicate_succ]
  simp only [runW,line_nil]
  exact runW_rep n (k+1)
theorem asm_rep {s:ByteArray} {n:Nat} (h:s.data.toList=List.replicate n 10) (hn:n≤4096):errO (asmS s)=none:=by
 have hs:s.size=n:=by
  have h1:s.data.toList.length=s.size:=by simp
  rw [← h1,h,List.length_replicate]
 unfold asmS
 rw [if_neg (by omega),linesL_rep h,List.length_replicate,if_neg (by omega),runW_rep]
 rfl
theorem asm_rep2 {s:ByteArray} {n:Nat} (h:s.data.toList=List.replicate n 10) (hn:4096<n) (hn2:n≤65536):errO (asmS s)=some (4097,4):=by
 have hs:s.size=n:=by
  have h1:s.data.toList.length=s.size:=by simp
  rw [← h1,h,List.length_replicate]
 unfold asmS
 rw [if_neg (by omega),linesL_rep h,List.length_replicate,if_pos hn]
 rfl
theorem asm_big {s:ByteArray} (h:65536<s.size):errO (asmS s)=some (0,3):=by
 unfold asmS
 rw [if_pos h]
 rfl
end Go.Sx.Ob
set_option linter.unusedVariables false
set_option maxRecDepth 100000
namespace Go.Sx
open Go.Proofs
end Go.Sx
set_option linter.unusedVariables false
set_option linter.unusedSimpArgs false
set_option maxRecDepth 100000
namespace Go.Sx.Ob
open Go.Proofs
theorem cellsAt_names {h:Hp} {a:Addr}:∀ (xs:List ByteArray) (k:Nat),(∀ i,(hi:i<xs.length)→cellsAt h (a.add ((k+i)*1)) 0 [.string xs[i]])→cellsAt h a k (xs.map enN).flatten
 | [],_,_=>trivial
 | x::xs,k,hc=>by
  refine ⟨?_,?_⟩
  ·have:=(hc 0 (by simp)).1
   rw [add_add] at this
   simpa using this
  ·refine cellsAt_names xs (k+1) fun i hi=>?_
   have:=hc (i+1) (by simpa using hi)
   rw [show k+1+i=k+(i+1) by omega]
   simpa using this
theorem VwS.flat {h:Hp} {a:Addr} {l:Nat} {xs:List ByteArray} (v:VwS h (some a) l xs):cellsAt h a 0 (xs.map enN).flatten :=
 cellsAt_names xs 0 fun i hi=>by
  obtain ⟨b,hb,hc,_⟩:=v.cells i hi
  cases hb
  rw [Nat.zero_add]
  exact hc
structure CU (h0:Hp) (a b c d:Sli) (h:Hp):Prop where
 b1:Box h h0.size 27 [a.v,b.v,c.v,d.v]
 b2:Box h (h0.size+1) 27 zU
 ext:Ext h0 h
section
variable {h0 h h':Hp} {a b c d:Sli}
theorem CU.keep (s:CU h0 a b c d h) (e:Ext h h'):CU h0 a b c d h':=⟨s.b1.keep e (by simp),s.b2.keep e (by simp),s.ext.trans e⟩
theorem CU.c0 (s:CU h0 a b c d h):cellsAt h ⟨h0.size,0,none⟩ 0 [a.v]:=s.b1.cells _ rfl
theorem CU.c1 (s:CU h0 a b c d h):cellsAt h (Addr.add ⟨h0.size,0,none⟩ 1) 0 [b.v]:=by rw [add_box]; exact s.b1.cells _ rfl
theorem CU.c3 (s:CU h0 a b c d h):cellsAt h (Addr.add ⟨h0.size,0,none⟩ 3) 0 [d.v]:=by rw [add_box]; exact s.b1.cells _ rfl
theorem CU.sz (s:CU h0 a b c d h):h0.size+2≤h.size:=by have:=s.b2.lt; omega
end
section
variable {L:Lp} {K:Value→Hp→Prop} {h0 h:Hp}
end
theorem VwB.take {h:Hp} {p:Option Addr} {l:Nat} {bs:Bt} (v:VwB h p l bs) {n:Nat} (hn:n≤l):VwB h p n (bs.take n):=by
 have hl:=v.len
 refine ⟨by rw [List.length_take]; omega,fun i hi=>?_⟩
 rw [List.length_take] at hi
 obtain ⟨a,ha,hc⟩:=v.cells i (by omega)
 rw [List.getElem_take]
 exact ⟨a,ha,hc⟩
theorem cellsAt_bytes {h:Hp} {a:Addr}:∀ (bs:Bt) (k:Nat),(∀ i,(hi:i<bs.length)→cellsAt h (a.add ((k+i)*1)) 0 [.int .u8 (bs[i].toNat:Int)])→cellsAt h a k (byC bs).flatten
 | [],_,_=>trivial
 | t::us,k,hc=>by
  have h0:=hc 0 (by simp)
  obtain ⟨h1,_⟩:=h0
  rw [add_add] at h1
  refine ⟨by simpa using h1,cellsAt_bytes us (k+1) fun i hi=>?_⟩
  have:=hc (i+1) (by simpa using hi)
  rw [show k+(i+1)=k+1+i by omega] at this
  exact this
theorem VwB.flat {h:Hp} {a:Addr} {l:Nat} {bs:Bt} (v:VwB h (some a) l bs):cellsAt h a 0 (byC bs).flatten:=by
 refine cellsAt_bytes bs 0 fun i hi=>?_
 obtain ⟨a',e,hc⟩:=v.cells i hi
 cases e
 rw [Nat.zero_add]
 exact hc
theorem UntAt.zero (h:Hp):UntAt h sl0 sl0 sl0 sl0 unt0:=⟨⟨rfl,by decide,fun i hi=>by cases hi⟩,⟨rfl,by decide,fun i hi=>by cases hi⟩,⟨rfl,by decide,fun i hi=>by cases hi⟩,⟨rfl,by decide,fun i hi=>by cases hi⟩⟩
end Go.Sx.Ob
set_option linter.unusedVariables false
set_option maxRecDepth 100000
namespace Go.Sx.BB
open Go.Sx Go.Sx.Ob
open Go.Proofs
structure Ent where
 p:Option Addr
 l:Nat
 c:Nat
 q:Option Addr
 d:Nat
 ts:Bt
def Ent.one (e:Ent):List Value:=[.slice e.p e.l e.c]
def Ent.two (e:Ent):List Value:=[.slice e.q e.l e.d]
theorem blkOf_add (p:Option Addr) (k:Nat):blkOf (p.map fun a=>a.add k)=blkOf p:=by
 cases p with
 | none=>rfl
 | some a=>simp [blkOf,add_block]
def Since (b:Nat) (h h':Hp):Prop:=h.size≤h'.size∧∀ i,i<b→i<h.size→h'[i]?=h[i]?
theorem Since.of {ws:List Nat} {b:Nat} {h h':Hp} (k:Ch ws h h') (hw:∀ i,i∈ws→i<h.size→b≤i):Since b h h' :=
 ⟨k.size,fun i hi hl=>k.same i hl fun hm=>by have:=hw i hm hl; omega⟩
theorem Since.trans {b:Nat} {h h1 h2:Hp} (a:Since b h h1) (c:Since b h1 h2):Since b h h2 :=
 ⟨Nat.le_trans a.1 c.1,fun i hi hl=>(c.2 i hi (Nat.lt_of_lt_of_le hl a.1)).trans (a.2 i hi hl)⟩
theorem Since.ext {h h1 h2:Hp} (a:Ext h h1) (c:Since h.size h1 h2):Ext h h2 :=
 ⟨Nat.le_trans a.size c.1,fun i hi _=>(c.2 i hi (Nat.lt_of_lt_of_le hi a.size)).trans (a.same i hi (by simp))⟩
def mkN (i j:Int):Int:=IntKind.wrap .u8 (Int.fdiv (IntKind.wrap .i64 (i+(1:Int))) ((2:Int)^(min (IntKind.u64.wrap (IntKind.i64.wrap (8*j.tmod 3))).toNat IntKind.i64.bits)))
def mkL (k j:Nat):List Value:=[.int .u8 (mkN k j)]
def Room (h:Hp) (b:Nat) (p:Option Addr) (c k m:Nat):Prop :=
 match p with
 | none=>c=0
 | some a=>∃ g o cells,a=⟨g,o,none⟩∧b≤g∧c<9223372036854775808∧Box h g 5 cells∧o+c*1≤cells.length∧∀ j,j<m→(cells.drop (o+j*1)).take 1=mkL k j
theorem Room.keep {ws:List Nat} {h h':Hp} {b:Nat} {p:Option Addr} {c k m:Nat} (r:Room h b p c k m) (kk:Ch ws h h') (hw:∀ i,i∈blkOf p→i∉ws):Room h' b p c k m:=by
 cases p with
 | none=>exact r
 | some a =>
  obtain ⟨g,o,cells,rfl,hbg,hc,hbox,hr,hm⟩:=r
  exact ⟨g,o,cells,rfl,hbg,hc,hbox.keep kk (hw g (by simp [blkOf])),hr,hm⟩
end Go.Sx.BB
set_option linter.unusedVariables false
set_option linter.unusedSimpArgs false
set_option maxRecDepth 100000
namespace Go.Sx.Ob
open Go.Proofs
def Btw (lo hi:Nat) (h h':Hp):Prop:=h.size≤h'.size∧∀ i,i<h.size→(i<lo∨hi≤i)→h'[i]?=h[i]?
theorem Btw.refl (lo hi:Nat) (h:Hp):Btw lo hi h h:=⟨Nat.le_refl _,fun _ _ _=>rfl⟩
theorem Btw.step {lo hi:Nat} {h h1 h2:Hp} {ws:List Nat} (b:Btw lo hi h h1) (k:Ch ws h1 h2) (hw:∀ i,i∈ws→i<h.size→lo≤i∧i<hi):Btw lo hi h h2 :=
 ⟨Nat.le_trans b.1 k.size,fun i hi hb=>(k.same i (Nat.lt_of_lt_of_le hi b.1) (fun hm=>by have:=hw i hm hi; omega)).trans (b.2 i hi hb)⟩
theorem Btw.box {lo hi:Nat} {h h':Hp} (b:Btw lo hi h h') {g:Nat} {e:TypeId} {xs:List Value} (bx:Box h g e xs) (hg:g<lo∨hi≤g):Box h' g e xs:=(b.2 g bx.lt hg).trans bx
def Shp (hq h':Hp):Prop:=∀ g cells,Box hq g 109 cells→∃ cells',Box h' g 109 cells'∧cells'.length=cells.length
theorem Shp.keep {hq h1 h2:Hp} {ws:List Nat} (s:Shp hq h1) (k:Ch ws h1 h2) (hw:∀ i,i∈ws→i<h1.size→∃ e ys,Box h1 i e ys∧e≠109):Shp hq h2:=by
 intro g cells b
 obtain ⟨c',b',hl⟩:=s g cells b
 refine ⟨c',b'.keep k (fun hm=>?_),hl⟩
 obtain ⟨e,ys,b2,he⟩:=hw g hm b'.lt
 unfold Box at b' b2
 rw [b'] at b2
 simp only [Option.some.injEq,Obj.cells.injEq] at b2
 exact he b2.2.1.symm
theorem Shp.store {hq h1 h2:Hp} {g:Nat} {cells cells':List Value} (s:Shp hq h1) (b1:Box h1 g 109 cells) (b2:Box h2 g 109 cells') (hl:cells'.length=cells.length) (k:Ch [g] h1 h2):Shp hq h2:=by
 intro g' cs b
 obtain ⟨c',b',hc⟩:=s g' cs b
 by_cases hg:g'=g
 ·subst hg
  refine ⟨cells',b2,?_⟩
  unfold Box at b1 b'
  rw [b1] at b'
  simp only [Option.some.injEq,Obj.cells.injEq] at b'
  have:=congrArg Array.size b'.1
  simp at this
  omega
 ·exact ⟨c',b'.keep k (by simpa using hg),hc⟩
theorem zmap8 (n:Nat):(List.range (n*1)).map (fun j=>(Value.int .u8 0).cells[j % (Value.int .u8 0).cells.size]!)=List.replicate n (.int .u8 0):=by
 rw [Nat.mul_one]
 apply List.ext_getElem
 ·simp
 ·intro i h1 h2
  rw [List.getElem_map,List.getElem_replicate]
  show (#[Value.int .u8 0]:Array Value)[((List.range n)[i]'(by simpa using h1)) % 1]! = _
  rw [Nat.mod_one]
  rfl
theorem make_bx {L:Lp} {K:Value→Hp→Prop} {h:Hp} {n:Nat} (hn:n≤2^40) {k:Option Addr→Nat→Nat→T} (hk:∀ h',Box h' h.size 5 (List.replicate n (.int .u8 0))→Ext h h'→k (some ⟨h.size,0,none⟩) n n L K h') :
  T.sem Tryz.prog (Instr.makeSlice 42 (.int .i64 (n:Int)) (.int .i64 (n:Int))) false [(false,[.slice 0])] k L K h:=by
 obtain ⟨i5,hi5,hz5,hs5,hb5⟩:=inf_of byZ
 refine sem_slice (makeSlice_of (l:=n) (c:=n) und22' hi5 hz5 (Nat.le_refl _) (by rw [hb5]; omega) (by omega) ?_)
 intro h14 b14 e14 z14
 rw [hs5,zmap8] at b14
 exact ⟨_,_,_,rfl,hk h14 b14 e14⟩
theorem convB_of {L:Lp} {K:Value→Hp→Prop} {h:Hp} {a:Addr} {l c:Nat} {bs:List UInt8} {k:ByteArray→T} (hl:l=bs.length) (hc:cellsAt h a 0 (bs.map fun b=>Value.int .u8 (b.toNat:Int))) (hk:k ⟨bs.toArray⟩ L K h) :
  T.sem Tryz.prog (convert 42 9 (.slice (some a) l c)) false [(false,[.string])] k L K h:=by
 subst hl
 show semW Tryz.prog (convert 42 9 (.slice (some a) bs.length c)) h _
 unfold convert
 rw [semW_bind',semW_underlying und22',semW_bind',semW_underlying und9']
 show semW Tryz.prog (do match ← underlying 5 with
  | .int .u8=>Conv.bytesToString (.slice (some a) bs.length c)
  | .int .i32=>Conv.runesToString (.slice (some a) bs.length c)
  | _ => stuck "Convert: a slice of what to string?") h _
 rw [semW_bind',semW_underlying und5']
 exact bytesBack a bs c _ hc ⟨(⟨bs.toArray⟩,()),rfl,hk⟩
theorem rep_bytes (n:Nat) (b:UInt8):(List.replicate n b).map (fun b=>Value.int .u8 (b.toNat:Int))=List.replicate n (.int .u8 (b.toNat:Int)):=by rw [List.map_replicate]
theorem rep_set {i n:Nat} (h:i<n) (x y:Value):setL (List.replicate i x++List.replicate (n-i) y) (0+i*1) [x]=List.replicate (i+1) x++List.replicate (n-(i+1)) y:=by
 have hd:∀ (A B:List Value) (y:Value),(A++y::B).drop (A.length+1)=B:=by
  intro A
  induction A with
  | nil=>intro B y; rfl
  | cons a A ih=>intro B y; exact ih B y
 have h1:List.replicate (n-i) y=y::List.replicate (n-(i+1)) y:=by rw [show n-i=(n-(i+1))+1 by omega,List.replicate_succ]
 rw [setL_eq _ _ _ (by simp; omega),Nat.zero_add,Nat.mul_one,h1,List.take_left' (by simp)]
 have h2:=hd (List.replicate i x) (List.replicate (n-(i+1)) y) y
 rw [List.length_replicate] at h2
 rw [show i+[x].length=i+1 from rfl,h2,List.replicate_succ']
theorem rep_cells {h:Hp} {g n m:Nat} {c:UInt8} (b:Box h g 5 (List.replicate n (.int .u8 (c.toNat:Int)))) (hm:m≤n):cellsAt h ⟨g,0,none⟩ 0 ((List.replicate m c).map fun b=>Value.int .u8 (b.toNat:Int)):=by
 rw [rep_bytes]
 refine b.cells _ ?_
 rw [List.drop_zero,List.length_replicate,List.take_replicate,Nat.min_eq_left hm]
theorem rep_size (n:Nat) (c:UInt8):(⟨(List.replicate n c).toArray⟩:ByteArray).size=n:=by
 show (List.replicate n c).toArray.size=n
 rw [List.size_toArray,List.length_replicate]
theorem rep_back (n:Nat) (c:UInt8):(⟨(List.replicate n c).toArray⟩:ByteArray).data.toList=List.replicate n c:=rfl
theorem big_err {n:Nat} (c:UInt8) (h:65536<n):wants 0 3 (errO (asmS ⟨(List.replicate n c).toArray⟩))=true:=by
 rw [asm_big (by rw [rep_size]; exact h)]
 rfl
theorem many_err {n:Nat} (h:4096<n) (h2:n≤65536):wants 4097 4 (errO (asmS ⟨(List.replicate n (10:UInt8)).toArray⟩))=true:=by
 rw [asm_rep2 (rep_back n 10) h h2]
 rfl
theorem few_ok {n:Nat} (h:n≤4096):wants 0 0 (errO (asmS ⟨(List.replicate n (10:UInt8)).toArray⟩))=true:=by
 rw [asm_rep (rep_back n 10) h]
 rfl
theorem conv_rep {L:Lp} {K:Value→Hp→Prop} {h:Hp} {g n m l c:Nat} {b:UInt8} {k:ByteArray→T} (hb:Box h g 5 (List.replicate n (.int .u8 (b.toNat:Int)))) (hm:m≤n) (hl:l=m) (hk:k ⟨(List.replicate m b).toArray⟩ L K h) :
  T.sem Tryz.prog (convert 42 9 (.slice (some ⟨g,0,none⟩) l c)) false [(false,[.string])] k L K h :=
 convB_of (bs:=List.replicate m b) (by rw [List.length_replicate]; exact hl) (rep_cells hb hm) hk
theorem box_one {h:Hp} {g:Nat} {s:ByteArray} (b:Box h g 9 [.string s]) (hs:s.size≤maxLen):VwS h (some ⟨g,0,none⟩) 1 [s] :=
 ⟨rfl,by simp,fun i hi=>by
  have:i=0:=by simp at hi; omega
  subst this
  exact ⟨_,rfl,by rw [Nat.zero_mul,add_zz]; exact b.cells _ rfl,hs⟩⟩
theorem fillx:Instr.fill (fun j=>some (j*1,1)) ((Array.range (1*1)).map ((Value.string ⟨#[]⟩).cells[· % (Value.string ⟨#[]⟩).cells.size]!)) [(0,.string ⟨#[120]⟩)]=some ([.string ⟨#[120]⟩]:List Value).toArray:=by kernel_rfl
theorem fill97:Instr.fill (fun j=>some (j*1,1)) ((Array.range (1*1)).map ((Value.string ⟨#[]⟩).cells[· % (Value.string ⟨#[]⟩).cells.size]!)) [(0,.string ⟨#[97]⟩)]=some ([.string ⟨#[97]⟩]:List Value).toArray:=by kernel_rfl
theorem SN.vwS {h:Hp} {b:Nat} {p:Option Addr} {l c:Nat} {xs:List ByteArray} (v:SN h b p l c xs) (hm:xs.length≤2^60) (hs:∀ x,x∈xs→x.size≤maxLen):VwS h p l xs :=
 ⟨SN.len v,hm,fun i hi=>by
  obtain ⟨a,ha,hc⟩:=SN.cell v hi
  exact ⟨a,ha,hc,hs _ (List.getElem_mem hi)⟩⟩
theorem k2nm:namesR u2=[⟨#[120]⟩]:=by
 unfold namesR
 rw [k2r,if_pos rfl,k2n]
 simp [sortB]
theorem says_t {L:Lp} {K:Value→Hp→Prop} {h0 h:Hp} (f:Fx h) (e0:Ext h0 h) {s:ByteArray} {l w:Nat} {k:Bool→T} (hw:wants l w (errO (asmS s))=true) (hk:∀ h',Fx h'→Ext h h'→k true L K h'):T.call Tryz.prog 17 [.string s,.int .i64 (l:Int),.int .i64 (w:Int)] false [(false,[.bool])] k L K h:=by
 refine call_of (says_hc s l w h f) ?_
 rintro _ h1 ⟨rfl,e1⟩
 rw [hw]
 exact ⟨(true,()),rfl,hk h1 (f.keep e1) e1⟩
set_option maxHeartbeats 800000 in
theorem law4_hc (h:Hp) (f:Fx h):HC Tryz.prog 4 #[] h fun v h'=>v=.bool true∧Ext h h':=by
 refine hcr_of (args:=[]) mixed Tryz.func4 (by kernel_rfl) t_spandrellaw9_UnitNumbers_eq ?_
 unfold t_spandrellaw9_UnitNumbers
 refine call_of (f.asm s2) ?_
 rintro _ h1 ⟨e1,a,b,c,d,ev,rfl,U,E⟩
 rw [k2] at E
 have E:ev=.nilIface:=E
 subst E
 refine ⟨((a.p,a.l,a.c),(b.p,b.l,b.c),(c.p,c.l,c.c),(d.p,d.l,d.c),.nilIface,()),rfl,?_⟩
 dsimp only [flat,unc,unc1,nA,cA]
 refine newB ?_
 intro h2 b2 e2 z2
 refine stores_of b2 rfl (by simp) ?_
 intro h3 b3 k3 z3
 have b3:Box h3 h1.size 27 [a.v,b.v,c.v,d.v]:=b3
 have e13:Ext h1 h3:=Ch.trans e2 k3 (fun i hi hl=>by simp at hi; omega)
 have e03:=e1.trans e13
 have U3:=U.keep e13 (by simp)
 have v:UntAt h3 a b c d u2:=U3.at (out_sz (by decide))
 have hal:a.l=0:=v.text.len.trans k2t
 have hbl:b.l=3:=v.data.len.trans k2d
 refine sem_bool (fun K' hK=>by rw [neNN]; exact hK) ?_
 refine cond_f rfl ?_
 refine loads_box b3 ((a.p,a.l,a.c),()) rfl ?_
 dsimp only [flat,unc,unc1,nA,cA]
 refine cond_f (by rw [hal]; rfl) ?_
 rw [add_box]
 refine loads_box b3 ((b.p,b.l,b.c),()) rfl ?_
 dsimp only [flat,unc,unc1,nA,cA]
 refine cond_f (by rw [hbl]; rfl) ?_
 rw [add_box]
 refine loads_box b3 ((d.p,d.l,d.c),()) rfl ?_
 dsimp only [flat,unc,unc1,nA,cA]
 refine lit_of und28 strZ (by omega) (by omega) fillx ?_
 intro h4 b4 e4 z4
 have vg:=v.globs
 rw [k2g] at vg
 refine call_of (sameStr_hc (vg.keep e4) (box_one b4 (by decide))) ?_
 rintro _ h5 ⟨t5,rfl,ht5,e5⟩
 have ht5:t5=true:=ht5.2 rfl
 subst ht5
 refine ⟨(true,()),rfl,?_⟩
 dsimp only [flat,unc,unc1,nA,cA]
 refine cond_f rfl ?_
 have e35:=e4.trans e5
 have e05:=e03.trans e35
 refine loads_box (b3.keep e35 (by simp)) ((a.p,a.l,a.c),(b.p,b.l,b.c),(c.p,c.l,c.c),(d.p,d.l,d.c),()) rfl ?_
 dsimp only [flat,unc,unc1,nA,cA]
 have hac:a.l≤a.c:=by omega
 refine call_of (names_hc (f.keep e05).tb.tab (v.keep e35) hac) ?_
 rintro _ h6 ⟨⟨p6,l6,c6,rfl,s6⟩,e6⟩
 rw [k2nm] at s6
 refine ⟨((p6,l6,c6),()),rfl,?_⟩
 dsimp only [flat,unc,unc1,nA,cA]
 refine lit_of und28 strZ (by omega) (by omega) fillx ?_
 intro h7 b7 e7 z7
 have s7:SN h7 h5.size p6 l6 c6 [⟨#[120]⟩]:=SL.keep s6 e7 (by simp)
 refine call_of (sameStr_hc (SN.vwS s7 (by simp) (by simp; decide)) (box_one b7 (by decide))) ?_
 rintro _ h8 ⟨t8,rfl,ht8,e8⟩
 have ht8:t8=true:=ht8.2 rfl
 subst ht8
 refine ⟨(true,()),rfl,?_⟩
 dsimp only [flat,unc,unc1,nA,cA]
 refine cond_f rfl ?_
 have e08:=((e05.trans e6).trans e7).trans e8
 have f8:=f.keep e08
 refine call_of (f8.asm ⟨#[]⟩) ?_
 rintro _ h9 ⟨e9,a',b',c',d',ev,rfl,U',E'⟩
 rw [Go.Sx.Ob.k3] at E' U'
 have E':ev=.nilIface:=E'
 subst E'
 refine ⟨((a'.p,a'.l,a'.c),(b'.p,b'.l,b'.c),(c'.p,c'.l,c'.c),(d'.p,d'.l,d'.c),.nilIface,()),rfl,?_⟩
 dsimp only [flat,unc,unc1,nA,cA]
 refine newB ?_
 intro h10 b10 e10 z10
 refine stores_of b10 rfl (by simp) ?_
 intro h11 b11 k11 z11
 have b11:Box h11 h9.size 27 [a'.v,b'.v,c'.v,d'.v]:=b11
 have e9b:Ext h9 h11:=Ch.trans e10 k11 (fun i hi hl=>by simp at hi; omega)
 have v':UntAt h11 a' b' c' d' unt0:=(U'.keep e9b (by simp)).at UntSz.z
 have e0b:=(e08.trans e9).trans e9b
 refine make_bx (n:=4097) (by decide) ?_
 intro h12 b12 e12
 have z12:=b12.lt
 refine loop_of (cs:=[(false,[.int .i64])]) (fun y m h'=>∃ i:Nat,y.1=(i:Int)∧m=4097-i∧i≤4097∧∃ cs,Box h' h11.size 5 cs∧cs=List.replicate i (.int .u8 10)++List.replicate (4097-i) (.int .u8 0)∧Ext h11 h') ((0:Int),()) 4097 rfl
  ⟨0,rfl,rfl,by omega,_,b12,by simp,e12⟩ ?_
 rintro ⟨n13,⟨⟩⟩ m h13 ⟨i,hi,rfl,hle,cs,b13,hcs,e13'⟩
 simp only at hi
 subst hi
 dsimp only [flat,unc,unc1,nA,cA]
 have hlen:cs.length=4097:=by rw [hcs,List.length_append,List.length_replicate,List.length_replicate]; omega
 refine cond_mk (fun q=>?_) (fun q=>?_)
 ·have q:=of_decide_eq_true q
  refine need_of ⟨by omega,by omega⟩ (osome_mk rfl ?_)
  rw [show Int.toNat (i:Int)=i by omega,add_box]
  refine stores_of b13 rfl (by simp; omega) ?_
  intro h14 b14 k14 z14
  refine again_mk (cs:=[(false,[.int .i64])]) (((i+1:Nat):Int),()) (4097-(i+1)) rfl (by omega) (by rw [wrap_i64 (by omega) (by omega)]; rfl) ?_
  refine ⟨i+1,rfl,rfl,by omega,_,b14,?_,Ch.trans e13' k14 (fun j hj hl=>by simp at hj; omega)⟩
  rw [hcs]
  exact rep_set (by omega) _ _
 ·have q:=of_decide_eq_false q
  have:i=4097:=by omega
  subst this
  have hcs:cs=List.replicate 4097 (.int .u8 10):=by rw [hcs]; simp
  subst hcs
  have e0c:=e0b.trans e13'
  have f13:=f.keep e0c
  refine sem_bool (fun K' hK=>by rw [eqNN]; exact hK) ?_
  refine cond_t rfl ?_
  refine loads_box (b11.keep e13' (by simp)) ((a'.p,a'.l,a'.c),(b'.p,b'.l,b'.c),(c'.p,c'.l,c'.c),(d'.p,d'.l,d'.c),()) rfl ?_
  dsimp only [flat,unc,unc1,nA,cA]
  have w0:UntAt h13 sl0 sl0 sl0 sl0 unt0:=(UntOwn.zero h13 0).at
  have hh:=sameUnit_hc (v'.keep e13') w0
  have hh2:HC Tryz.prog 13 [.agg #[.slice a'.p a'.l a'.c,.slice b'.p b'.l b'.c,.slice c'.p c'.l c'.c,.slice d'.p d'.l d'.c],.agg #[.slice none 0 0,.slice none 0 0,.slice none 0 0,.slice none 0 0]].toArray h13 (Eqw unt0 unt0 h13):=hh
  refine call_of hh2 ?_
  rintro _ h15 ⟨t,rfl,ht,e15⟩
  have ht:t=true:=ht.2 rfl
  subst ht
  refine ⟨(true,()),rfl,?_⟩
  dsimp only [flat,unc,unc1,nA,cA]
  refine cond_t rfl ?_
  have f15:=f13.keep e15
  refine says_t f15 (e0c.trans e15) (l:=1) (w:=23) (by rw [kb]; rfl) fun h16 f16 e16=>?_
  refine cond_t rfl ?_
  refine says_t f16 (Ch.refl _ _) (l:=2) (w:=20) (by rw [kc]; rfl) fun h17 f17 e17=>?_
  refine cond_t rfl ?_
  refine says_t f17 (Ch.refl _ _) (l:=1) (w:=21) (by rw [kd]; rfl) fun h18 f18 e18=>?_
  refine cond_t rfl ?_
  refine says_t f18 (Ch.refl _ _) (l:=1) (w:=21) (by rw [ke]; rfl) fun h19 f19 e19=>?_
  refine cond_t rfl ?_
  refine says_t f19 (Ch.refl _ _) (l:=1) (w:=22) (by rw [kf]; rfl) fun h20 f20 e20=>?_
  refine cond_t rfl ?_
  refine make_bx (n:=65537) (by decide) ?_
  intro h21 b21 e21
  have e13x:=(((((e15.trans e16).trans e17).trans e18).trans e19).trans e20).trans e21
  refine conv_rep (b:=0) (n:=65537) (m:=65537) b21 (Nat.le_refl _) rfl ?_
  have f21:=f20.keep e21
  refine says_t f21 (Ch.refl _ _) (l:=0) (w:=3) (big_err 0 (by omega)) fun h22 f22 e22=>?_
  refine cond_t rfl ?_
  have b22:=(b13.keep e13x (by simp)).keep e22 (by simp)
  refine conv_rep (b:=10) (n:=4097) (m:=4097) b22 (Nat.le_refl _) rfl ?_
  refine says_t f22 (Ch.refl _ _) (l:=4097) (w:=4) (many_err (by omega) (by omega)) fun h23 f23 e23=>?_
  refine cond_t rfl ?_
  refine need_of ⟨by omega,by omega,by omega⟩ ?_
  have b23:=b22.keep e23 (by simp)
  rw [if_neg (by omega),Option.map_some,add_zz]
  refine conv_rep (b:=10) (n:=4097) (m:=4096) b23 (by omega) (by omega) ?_
  refine says_t f23 (Ch.refl _ _) (l:=0) (w:=0) (few_ok (Nat.le_refl _)) fun h24 f24 e24=>?_
  refine cond_t rfl ?_
  refine lit_of und28 strZ (by omega) (by omega) fill97 ?_
  intro h25 b25 e25 z25
  have va:UntAt h25 sl0 sl0 sl0 ⟨some ⟨h24.size,0,none⟩,1,1⟩ ⟨[],[],[],[⟨#[97]⟩]⟩:=⟨(UntOwn.zero h25 0).at.text,(UntOwn.zero h25 0).at.data,(UntOwn.zero h25 0).at.equs,box_one b25 (by decide)⟩
  refine call_of (unitRight_hc (f24.keep e25).tb.tab va) ?_
  rintro _ h26 ⟨rfl,e26⟩
  rw [k4]
  refine ⟨(((31:Nat):Int),()),rfl,?_⟩
  dsimp only [flat,unc,unc1,nA,cA]
  refine cond_t rfl ?_
  refine lit_of und28 strZ (by omega) (by omega) fill97 ?_
  intro h27 b27 e27 z27
  have vb:UntAt h27 sl0 sl0 sl0 ⟨some ⟨h26.size,0,none⟩,1,1⟩ ⟨[],[],[],[⟨#[97]⟩]⟩:=⟨(UntOwn.zero h27 0).at.text,(UntOwn.zero h27 0).at.data,(UntOwn.zero h27 0).at.equs,box_one b27 (by decide)⟩
  have f27:=(f24.keep e25).keep (e26.trans e27)
  refine call_of (names_hc f27.tb.tab vb (Nat.le_refl _)) ?_
  rintro _ h28 ⟨⟨p28,l28,c28,rfl,s28⟩,e28⟩
  have hn:namesR ⟨[],[],[],[⟨#[97]⟩]⟩=[]:=by unfold namesR; rw [k4]; rfl
  rw [hn] at s28
  have hl28:l28=0:=SN.len s28
  refine ⟨((p28,l28,c28),()),rfl,?_⟩
  dsimp only [flat,unc,unc1,nA,cA]
  refine cond_t (by rw [hl28]; rfl) ?_
  refine call_of (known_hc h28 (f27.keep e28)) ?_
  rintro _ h29 ⟨rfl,e29⟩
  refine ⟨(true,()),rfl,?_⟩
  exact ⟨rfl,(((((((e0c.trans e13x).trans e22).trans e23).trans e24).trans (e25.trans e26)).trans e27).trans e28).trans e29⟩
open Go.Proofs Go.Proofs.YtfkjiiapldkoeaaGreatDoor
open Go.ChangeShapes Go.WideShapes Go.ChangeAt Go.WideMaps Go.WideElems Go.RowKit
theorem ownK:ownKnob Tryz.prog.godebug=none:=by kernel_rfl
theorem u9:Tryz.prog.underlying 9=some .string:=by kernel_rfl
theorem u4:Tryz.prog.underlying 4=some .bool:=by kernel_rfl
theorem u3:Tryz.prog.underlying 3=some (.int .i64):=by kernel_rfl
theorem u5:Tryz.prog.underlying 5=some (.int .u8):=by kernel_rfl
theorem u127:Tryz.prog.underlying 215=some (.array 43 158):=by kernel_rfl
theorem c106:Tryz.prog.cellsOf 158=3:=by kernel_rfl
theorem c127:Tryz.prog.cellsOf 215=129:=by kernel_rfl
theorem c9:Tryz.prog.cellsOf 9=1:=by kernel_rfl
theorem c5:Tryz.prog.cellsOf 5=1:=by kernel_rfl
theorem c3:Tryz.prog.cellsOf 3=1:=by kernel_rfl
theorem s106:flds2 Tryz.prog 158=some [(9,0),(5,1),(3,2)]:=by kernel_rfl
def tabL:List (DataW Unit):=match (Rows.laid_spandrel_isa_table:DataW Unit) with | .agg l=>l | _=>[]
def shpOf:DataW Unit→Int
 | .agg [_,_,.lit (.int _ n)]=>n
 | _=>0
theorem tabL_eq:(Rows.laid_spandrel_isa_table:DataW Unit)=.agg tabL:=by kernel_rfl
theorem tabL_shp:tabL.map shpOf=(List.range 43).map fun k=>((shpL.getD k 0:Nat):Int):=by kernel_rfl
theorem flat_len {α β:Type} (f:α→List β) (m:Nat) (hf:∀ x,(f x).length=m):∀ l:List α,(l.flatMap f).length=l.length*m
 | []=>by simp
 | x::l=>by rw [List.flatMap_cons,List.length_append,hf,flat_len f m hf l,List.length_cons,Nat.succ_mul,Nat.add_comm]
theorem rowsV_length (nm:Nat→ByteArray) (by_:Nat→Int):(rowsV nm by_).length=129:=by
 unfold rowsV
 rw [flat_len _ 3 (fun x=>rfl),List.length_range]
def nmOf:DataW Unit→List UInt8
 | .agg [.lit (.string s),_,_]=>s
 | _=>[]
def byOf:DataW Unit→Int
 | .agg [_,.lit (.int _ n),_]=>n
 | _=>0
theorem tabL_nm:tabL.map nmOf=(List.range 43).map fun k=>opNm k:=by kernel_rfl
theorem tabL_by:tabL.map byOf=(List.range 43).map fun k=>opsB k:=by kernel_rfl
theorem tab_cells {enc:TypeId × Value→Unit} {W:World} {base fuel:Nat} {sp:Nat→Bool} {held:Bool} {cs:List Value} {p:List MemPlace}
  (h:DataW.trod enc Tryz.prog W base sp held fuel 215 cs=some (Rows.laid_spandrel_isa_table,p)):cs=rowsV opsN opsB:=by
 obtain ⟨xs,m,_,hx,hl,hlen,hf⟩:=DataW.trod_array u127 h
 rw [c127] at hl
 have hxs:xs.map (·.1)=tabL:=by
  have:=congrArg Prod.fst hx
  rw [show (Rows.laid_spandrel_isa_table,p).1=DataW.agg tabL from tabL_eq] at this
  simpa using this.symm
 have each:∀ i,i<43→(cs.drop (i*3)).take 3=[.string (opsN i),.int .u8 (opsB i),.int .i64 ((shpL.getD i 0:Nat):Int)]:=by
  intro i hi
  have h1:=hf i hi
  rw [c106] at h1
  rw [List.getElem?_eq_getElem (by omega)] at h1
  obtain ⟨ys,n,hy,hyl,hyn,hys⟩:=open_struct s106 h1
  obtain ⟨y0,g0,t0⟩:=hys 0 _ rfl
  obtain ⟨y1,g1,t1⟩:=hys 1 _ rfl
  obtain ⟨y2,g2,t2⟩:=hys 2 _ rfl
  rw [c106] at hyl
  generalize hc:(cs.drop (i*3)).take 3=c at *
  match c,hyl with
  | [v0,v1,v2],_ =>
   rw [show Tryz.prog.cellsOf (9,0).1=1 from c9] at t0
   rw [show Tryz.prog.cellsOf (5,1).1=1 from c5] at t1
   rw [show Tryz.prog.cellsOf (3,2).1=1 from c3] at t2
   obtain ⟨s,e0,r0,_⟩:=DataW.trod_string u9 t0
   obtain ⟨b,e1,r1,_⟩:=DataW.trod_int u5 t1
   obtain ⟨k,e2,r2,_⟩:=DataW.trod_int u3 t2
   cases e0; cases e1; cases e2
   have hys3:ys=[y0,y1,y2]:=by
    apply List.ext_getElem?
    intro j
    match j with
    | 0=>exact g0
    | 1=>exact g1
    | 2=>exact g2
    | j+3=>rw [List.getElem?_eq_none (by rw [hyn]; simp),List.getElem?_eq_none (by simp)]
   have h2:(xs.map (·.1))[i]?=some (xs[i]'(by omega)).1:=by rw [List.getElem?_map,List.getElem?_eq_getElem (by omega)]; rfl
   rw [hxs] at h2
   have hk:k=((shpL.getD i 0:Nat):Int):=by
    have h3:(tabL.map shpOf)[i]?=some (shpOf (xs[i]'(by omega)).1):=by rw [List.getElem?_map,h2]; rfl
    rw [tabL_shp,List.getElem?_map,List.getElem?_range hi] at h3
    rw [hy,hys3,r0,r1,r2] at h3
    exact (Option.some.inj h3).symm
   have hb:b=opsB i:=by
    have h3:(tabL.map byOf)[i]?=some (byOf (xs[i]'(by omega)).1):=by rw [List.getElem?_map,h2]; rfl
    rw [tabL_by,List.getElem?_map,List.getElem?_range hi] at h3
    rw [hy,hys3,r0,r1,r2] at h3
    exact (Option.some.inj h3).symm
   have hs:s=opsN i:=by
    have h3:(tabL.map nmOf)[i]?=some (nmOf (xs[i]'(by omega)).1):=by rw [List.getElem?_map,h2]; rfl
    rw [tabL_nm,List.getElem?_map,List.getElem?_range hi] at h3
    rw [hy,hys3,r0,r1,r2] at h3
    exact ba_ext (Option.some.inj h3).symm
   rw [hk,hb,hs]
 apply List.ext_getElem?
 intro j
 by_cases hj:j<129
 ·obtain ⟨a,b,hab,hb⟩:∃ a b,j=a*3+b∧b<3:=⟨j / 3,j % 3,by omega,by omega⟩
  subst hab
  unfold rowsV
  rw [flat_get (fun k=>[Value.string (opsN k),.int .u8 (opsB k),.int .i64 (shpL.getD k 0:Nat)]) 3 (fun x=>rfl) _ a b hb,List.getElem?_range (by omega)]
  show cs[a*3+b]?=[Value.string (opsN a),.int .u8 (opsB a),.int .i64 ((shpL.getD a 0:Nat):Int)][b]?
  have:=each a (by omega)
  rw [← this,List.getElem?_take,if_pos hb,List.getElem?_drop]
 ·have hr:(rowsV opsN opsB).length=129:=rowsV_length _ _
  rw [List.getElem?_eq_none (by omega),List.getElem?_eq_none (by omega)]
theorem var_obj {P:Program} {W:World} {name:String} {g:Nat} {cs:Array Value} (hg:P.globalNamed name=some g) (hv:W.var? P name=some cs):∃ e f,W.heap[g]?=some (.cells cs e f):=by
 unfold World.var? at hv
 rw [hg] at hv
 have hv:(match (W.heap[g]?:Option Obj) with | some (.cells cs _ _)=>some cs | _=>none)=some cs:=hv
 split at hv
 ·rename_i cs' e f hh
  cases hv
  exact ⟨e,f,hh⟩
 ·cases hv
theorem u148 : Tryz.prog.underlying 29 = some (.interface #[("Error", 85)]) := by kernel_rfl
theorem laid_of {W:World} (h:laidMetH Tryz.prog Rows.unitAssemblesRow.laid W):TabN W.heap∧Laid W.heap∧Pow10 W.heap:=by
 rw [MakeChecks.laidMetH_plain _ _ _ (by kernel_rfl)] at h
 obtain ⟨ps,⟨g0,t0,cs0,f0,p0,q0,hg0,ht0,hv0,hd0,⟨g1,t1,cs1,f1,p1,q1,hg1,ht1,hv1,hd1,⟨g2,t2,cs2,f2,p2,q2,hg2,ht2,hv2,hd2,⟨g3,t3,cs3,f3,p3,q3,hg3,ht3,hv3,hd3,⟨g4,t4,cs4,f4,p4,q4,hg4,ht4,hv4,hd4,⟨g5,t5,cs5,f5,p5,q5,hg5,ht5,hv5,hd5,_,_⟩,_⟩,_⟩,_⟩,_⟩,_⟩,_,_⟩:=h
 obtain rfl:=Option.some.inj ((show Tryz.prog.globalNamed _=some 3 by kernel_rfl).symm.trans hg2)
 obtain rfl:=Option.some.inj ((show Tryz.prog.globalNamed _=some 1 by kernel_rfl).symm.trans hg3)
 obtain rfl:=Option.some.inj ((show Tryz.prog.globalNamed _=some 5 by kernel_rfl).symm.trans hg4)
 obtain rfl:=Option.some.inj ((show Tryz.prog.globalNamed _=some 4 by kernel_rfl).symm.trans hg5)
 have h2:(Tryz.prog.globals[3]?).map (·.type)=some 295:=by kernel_rfl
 obtain rfl:=Option.some.inj (h2.symm.trans ht2)
 have h3:(Tryz.prog.globals[1]?).map (·.type)=some 215:=by kernel_rfl
 obtain rfl:=Option.some.inj (h3.symm.trans ht3)
 have h4:(Tryz.prog.globals[5]?).map (·.type)=some 29:=by kernel_rfl
 obtain rfl:=Option.some.inj (h4.symm.trans ht4)
 have h5:(Tryz.prog.globals[4]?).map (·.type)=some 29:=by kernel_rfl
 obtain rfl:=Option.some.inj (h5.symm.trans ht5)
 have hc:=Lib.cells_of_tab (n:=20) (e:=209) (k:=.u64) (zs:=Lib.pow10Tab) (by kernel_rfl) (by kernel_rfl) (by kernel_rfl) (by kernel_rfl) hd2
 have hr:=tab_cells hd3
 obtain ⟨e2,ff2,ho2⟩:=var_obj hg2 hv2
 obtain ⟨e3,ff3,ho3⟩:=var_obj hg3 hv3
 obtain ⟨_,w4,v4,e4,_⟩:=iface_of_trod u148 hd4
 obtain ⟨_,w5,v5,e5,_⟩:=iface_of_trod u148 hd5
 have c4:=World.var?_cell hg4 hv4 0
 have c5:=World.var?_cell hg5 hv5 0
 rw [← Array.getElem?_toList,e4] at c4
 rw [← Array.getElem?_toList,e5] at c5
 refine ⟨⟨e3,ff3,?_⟩,⟨⟨_,c5,rfl⟩,⟨_,c4,rfl⟩⟩,⟨e2,ff2,?_⟩⟩
 ·rw [ho3,← hr]
 ·rw [ho2,← hc]
theorem door_met (os:Os) (args:Array Value):laidMetH Tryz.prog Rows.unitAssemblesRow.laid ((World.doorLaid Tryz.prog 400 os).forCall (fun _ _=>0) ⟨#[],args,[]⟩).memory :=
 laidMetH_of_parts3 (fuel:=8) (laidMet_of_run' 8 (by kernel_rfl) (by kernel_rfl)) (by kernel_rfl) (by kernel_rfl)
theorem kidsT:Kids Tryz.prog (·<Tryz.prog.types.size):=kids_rows (by kernel_rfl) (by kernel_rfl)
theorem sliceB:((List.range Tryz.prog.types.size).all fun t=>match Tryz.prog.underlying t with | some (.slice e)=>decide (0<Tryz.prog.cellsOf e) | _=>true)=true:=by kernel_rfl
theorem sliceT {t e:TypeId} (ht:t<Tryz.prog.types.size) (hu:Tryz.prog.underlying t=some (.slice e)):0<Tryz.prog.cellsOf e:=by
 have:=List.all_eq_true.1 sliceB t (List.mem_range.2 ht)
 rw [hu] at this
 exact of_decide_eq_true this
theorem trodAll_stays {H:Type} {enc:TypeId × Value→H} {W W':World} {sp:Nat→Bool} (hB:Below W.heap.size W W'):∀ {ts:List TypeId} {vs:List Value} {ds:List (DataW H)} {ps:List MemPlace},(∀ t∈ts,t<Tryz.prog.types.size) →
  DataW.TrodAll enc Tryz.prog W 0 (fun _=>true) true ts vs ds ps→(∀ p∈ps,p.block<W.heap.size)→(∀ p∈ps,sp p.block=true)→DataW.TrodAll enc Tryz.prog W' 0 sp true ts vs ds ps
 | [],_,_,_,_,h,_,_=>by
  obtain ⟨rfl,rfl,rfl⟩:=trodAll_nil h
  exact trodAll_mk0
 | t::ts,_,_,_,ht,h,hl,hs=>by
  obtain ⟨v,vs1,d,ds1,a,b,rfl,rfl,rfl,⟨n,h1⟩,h2⟩:=trodAll_cons h
  exact ⟨a,b,⟨n,DataW.trod_stays kidsT (fun h hu=>sliceT h hu) (fun h=>by cases h) (ht t (List.mem_cons_self ..)) h1 (fun p hp=>below_same hB (hl p (List.mem_append_left _ hp))) (fun p hp=>hs p (List.mem_append_left _ hp))⟩,
   trodAll_stays hB (fun t h=>ht t (List.mem_cons_of_mem _ h)) h2 (fun p hp=>hl p (List.mem_append_right _ hp)) (fun p hp=>hs p (List.mem_append_right _ hp)),rfl⟩
theorem post_old {H:Type} {enc:TypeId × Value→H} {f:Func} {s:ChangeSpec} {apart fresh handsOn:Bool} {W W':World} {args:Array Value} {v:Value} {ds gs:List (DataW H)} {before:List MemPlace} (hv0:s.vars=[])
  (hW:DataW.Whole enc Tryz.prog f.params.toList s.vars apart W args.toList ds gs before)
  (hres:∀ (b:Nat) (sp:Nat→Bool) (hd:Bool),DataW.TrodAll enc Tryz.prog W' b sp hd f.resultTypes.toList (v.resultList f.resultTypes.size) (s.fn H (ds++gs)).results [])
  (hargs:(s.fn H (ds++gs)).args=ds) (hvs:(s.fn H (ds++gs)).vars=[]) (hts:∀ t∈f.params.toList,t<Tryz.prog.types.size) (hB:Below W.heap.size W W') :
  s.post enc Tryz.prog f apart fresh handsOn false W args v W':=by
 have hlt:=hW.lt
 have hW':=hW
 obtain ⟨p,q,hA,hV,rfl,hz,hn⟩:=hW
 rw [hv0] at hV
 obtain ⟨rfl,rfl⟩:=trodVars_none hV
 rw [List.append_nil] at hlt hW'
 refine ⟨ds,[],p,[],p,[],hW',hres _ _ _,?_,?_,hB.frame _,fun h=>by cases h⟩
 ·rw [hargs]
  exact trodAll_stays hB hts hA hlt (fun p hp=>decide_eq_true (hlt p hp))
 ·rw [hvs,hv0]
  rfl
theorem c28:Tryz.prog.cellsOf 25=1:=by kernel_rfl
theorem s55:flds2 Tryz.prog 94=some [(91,0),(92,1)]:=by kernel_rfl
theorem s79:flds2 Tryz.prog 96=some [(3,0),(9,1),(90,2),(94,7),(3,9)]:=by kernel_rfl
section
variable {H:Type} {enc:TypeId × Value→H} {W:World} {base n:Nat} {sp:Nat→Bool} {held:Bool} {cs:List Value} {y:DataW H × List MemPlace}
end
open Go.ChangeMaps
theorem maxLen_cell {w:World} (h:w.ShapedOpen Tryz.prog):∃ m,w.cell? ⟨2,0,none⟩=some (.int .i64 m) :=
 cell_of_shapedOpen_int (g:=2) (t:=3) (zero:=#[.int .i64 0]) h (of_decide_eq_true (by kernel_rfl)) (by kernel_rfl) rfl (by kernel_rfl) (by kernel_rfl) (by kernel_rfl)
theorem fx_of {W:World} (h:TabN W.heap∧Laid W.heap∧Pow10 W.heap) (hs:W.ShapedOpen Tryz.prog):Fx W.heap:=by
 obtain ⟨m,hm⟩:=maxLen_cell hs
 exact ⟨h.1,h.2.1,h.2.2,m,by rw [cell_heap] at hm; exact hm,trivial⟩
theorem ret_and_shaped {H:Type} {enc:TypeId × Value→H} {a:Assume} {C:Checked} {os:Os} {f:FuncId} {fn:Func} {s:ChangeSpec} {conds:List PathCond} {apart fresh handsOn again:Bool} {X:World→Array Value→Prop}
  (hX:∀ (w w':World) (args:Array Value),w.heap=w'.heap→X w args→X w' args)
  (own:ownKnob C.prog.godebug=none) (started:os.Started) (noInit:C.prog.inits.idxOf? f=none) (hfn:C.prog.funcs[f]?=some fn)
  (witness:∃ (w:World) (tape:Tape) (i:Input),w.os=os∧(w.forCall tape i).Shaped C.prog∧i.vars=[]∧Input.okWide C.prog (w.forCall tape i) .any w.heap.size f i ∧
   ((s.pre enc C.prog fn conds apart (w.forCall tape i).memory i.args∧X (w.forCall tape i).memory i.args)∧sizedMet enc C.prog fn (OpenSpec.ofChange s) apart (w.forCall tape i).memory i.args)∧a.holds C.prog (lone (Frame.enter C.prog f i.args .normal) [] (w.forCall tape i)))
  (contract:∀ (W:World) (base:Nat) (args:Array Value) (ds gs:List (DataW H)) (before:List MemPlace),
   (∀ (j:Nat) t v,fn.params[j]?=some t→args[j]?=some v→Value.okWide C.prog W .any base t v) →
   DataW.Whole enc C.prog fn.params.toList s.vars apart W args.toList ds gs before→W.ShapedOpen C.prog→X W args →
   Calls C.prog f args W fun e W'=>∃ v,e=.returned v∧s.post enc C.prog fn apart fresh handsOn again W args v W') :
  ReturnsInHanded a C os f .any (fun w args=>(s.pre enc C.prog fn conds apart w args∧X w args)∧sizedMet enc C.prog fn (OpenSpec.ofChange s) apart w args) (s.post enc C.prog fn apart fresh handsOn again):=by
 refine returnsInHanded_of_calls own started noInit witness ?_
 intro w tape i _ hsh _ hok hpre hholds
 obtain ⟨_,_,_,fn',hfn',_,_,_,_,hval⟩:=hok
 have e:fn'=fn:=Option.some.inj (hfn'.symm.trans hfn)
 subst e
 obtain ⟨⟨⟨ds,gs,before,hw,hc⟩,hx⟩,hz⟩:=hpre
 have hw':=DataW.Whole.of_heap (w':=w.forCall tape i) (by rfl) hw
 refine (contract (w.forCall tape i) w.heap.size i.args ds gs before hval hw' hsh (hX _ _ _ (by rfl) hx)).mono fun e W' ⟨v,he,hp⟩=>?_
 subst he
 exact ChangeSpec.post_blind hp
theorem unitNumbers_small:(Tryz.f4.params.toList.all fun t=>decide (t<Tryz.prog.types.size))=true:=by kernel_rfl
theorem unitNumbers_cell0:Tryz.prog.inPlace 4=Rows.unitNumbersRow.inPlace:=by kernel_rfl
theorem unitNumbers_cell1:Tryz.prog.unfollowed 4=Rows.unitNumbersRow.unfollowed:=by kernel_rfl
theorem unitNumbers_cell2:Tryz.prog.recurses 4=Rows.unitNumbersRow.recurses:=by kernel_rfl
theorem unitNumbers_cell3:Tryz.prog.varsNamed 4=Rows.unitNumbersRow.named:=by kernel_rfl
theorem unitNumbers_facts:joinedFacts Tryz.prog 4 Tryz.f4 Rows.unitNumbersSpec Rows.unitNumbersRow=true:=by
 unfold joinedFacts
 rw [unitNumbers_cell0,unitNumbers_cell1,unitNumbers_cell2,unitNumbers_cell3]
 kernel_rfl
theorem unitNumbers_lifted (os:Os) (started:os.Started) (H:Type) (enc:TypeId × Value→H) :
  ReturnsInHanded {} Tryz.checked os 4 .any (fun w args=>(Rows.unitNumbersSpec.pre enc Tryz.prog Tryz.f4 [] false w args∧laidMetH Tryz.prog Rows.unitNumbersRow.laid w)∧sizedMet enc Tryz.prog Tryz.f4 (OpenSpec.ofChange Rows.unitNumbersSpec) false w args)
   (Rows.unitNumbersSpec.post enc Tryz.prog Tryz.f4 false true false false):=by
 refine ret_and_shaped (C:=Tryz.checked) (X:=fun w _=>laidMetH Tryz.prog Rows.unitNumbersRow.laid w) (fun _ _ _ hh h=>h.of_heap hh) ownK started (by kernel_rfl) Tryz.func4
  (ChangeSpec.witness_shaped (enc:=enc) (C:=Tryz.checked) (os:=os) (X:=fun w _=>laidMetH Tryz.prog Rows.unitNumbersRow.laid w) false (World.doorLaid Tryz.prog 400 os) #[] 8 rfl (World.shaped_of_RefB (by kernel_rfl) (by kernel_rfl)) (by kernel_rfl) (by kernel_rfl) (by kernel_rfl) (door_met os _)) ?_
 intro W base args ds gs before hval0 hW hsh hL
 have hval:∀ (j:Nat) t v,Tryz.f4.params[j]?=some t→args[j]?=some v→Value.okWide Tryz.prog W .any base t v:=hval0
 have hW':=hW
 obtain ⟨p,q,hA0,hV,rfl,hfz,hnd⟩:=hW
 have hA:DataW.TrodAll enc Tryz.prog W 0 (fun _=>true) true Tryz.f4.params.toList args.toList ds p:=hA0
 have hpf:Tryz.f4.params=#[]:=by kernel_rfl
 rw [hpf] at hA hval
 clear hA0 hval0
 obtain ⟨args⟩:=args
 obtain ⟨rfl,rfl,rfl⟩:=trodAll_nil hA
 obtain ⟨rfl,rfl⟩:=trodVars_none hV
 simp only [List.append_nil] at hW'
 refine (calls_of (law4_hc _ (fx_of (laid_of hL) hsh)) (fun _ _ h=>h.2)).mono fun e W' ⟨v,he,hB,hv,_⟩=>?_
 subst he hv
 exact ⟨_,rfl,post_old rfl hW' (fun _ _ _=>trodAll_mk1 (shut_bool u4 _)) rfl rfl (fun t ht=>of_decide_eq_true (List.all_eq_true.1 unitNumbers_small t ht)) hB⟩
theorem unitNumbers_holds:Rows.UnitNumbersSaid :=
 OpenClaim.holds_of_wide 4 Tryz.f4 rfl rfl rfl rfl rfl rfl rfl ⟨rfl,rfl,rfl,rfl,rfl⟩ rfl rfl rfl rfl rfl (by kernel_rfl) Tryz.func4 unitNumbers_facts
  (of_decide_eq_true (by kernel_rfl)) (by unfold Func.isWrapper; first | (rw [if_pos (by decide +kernel)]; kernel_rfl) | (rw [if_neg (by decide +kernel)]; exact ⟨rfl,rfl⟩))
  (fun os started H enc _=>unitNumbers_lifted os started H enc)
end Go.Sx.Ob
