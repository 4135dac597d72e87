/- Contracts over heaps, and plain laws, for the functions that the laws of chapter 8 call, part 3: The reading of an expression, in plain words: signs, factors, parts, sums, of to Condition: as each statement says. -/
import Derived.Test.YtgnhjkofpmchpaaGreatDoorP2
import Derived.Test.YtgnhjkofpmchpaaGreatDoorILineT
import Derived.Test.YtgnhjkofpmchpaaGreatDoorIExprU
set_option linter.unusedVariables false
set_option linter.unusedSimpArgs false
set_option linter.deprecated false
set_option maxRecDepth 100000
namespace Go.Sx
open Go.Proofs
def Since (b:Nat) (h h':Hp):Prop:=h.size≤h'.size∧∀ i,i<b→i<h.size→h'[i]?=h[i]?
theorem Since.of {ws:List Nat} {b:Nat} {h h':Hp} (k:Ch ws h h') (hw:∀ i,i∈ws→i<h.size→b≤i):Since b h h' :=
 ⟨k.size,fun i hi hl=>k.same i hl fun hm=>by have:=hw i hm hl; omega⟩
theorem Since.trans {b:Nat} {h h1 h2:Hp} (a:Since b h h1) (c:Since b h1 h2):Since b h h2 :=
 ⟨Nat.le_trans a.1 c.1,fun i hi hl=>(c.2 i hi (Nat.lt_of_lt_of_le hl a.1)).trans (a.2 i hi hl)⟩
def isS (t:Tok) (c:UInt8):Bool:=t.kind==3 && t.text.data.toList==[c]
def argsS (n:Nat):List Tok→List (List Tok)→List Tok→Except Nat (List (List Tok))
 | [],done,cur=>if cur=[] then .error n else .ok (done++[cur])
 | t::ts,done,cur=>if (isS t 58 || (isS t 44 && decide (cur=[])))=true then .error t.at_ else if isS t 44=true then argsS n ts (done++[cur]) [] else argsS n ts done (cur++[t])
def argsA (n:Nat) (ts:List Tok):Except Nat (List (List Tok)):=if ts=[] then .ok [] else argsS n ts [] []
structure Ln where
 label:ByteArray
 op:ByteArray
 args:List (List Tok)
def lnNil:Ln:=⟨⟨#[]⟩,⟨#[]⟩,[]⟩
def labB:List Tok→Bool
 | t::u::_=>decide (t.kind=1) && isS u 58
 | _=>false
def parseT (n:Nat) (lab:ByteArray):List Tok→Ln × Nat × Nat
 | []=>(⟨lab,⟨#[]⟩,[]⟩,0,0)
 | t::ts=>if t.kind≠1 then (lnNil,t.at_,20) else match argsA n ts with
  | .error a=>(lnNil,a,20)
  | .ok l=>(⟨lab,t.text,l⟩,0,0)
def parseL (n:Nat) (ts:List Tok):Ln × Nat × Nat :=
 if labB ts=true then parseT n ((ts.head?.map (·.text)).getD ⟨#[]⟩) (ts.drop 2) else parseT n ⟨#[]⟩ ts
def parseS (s:ByteArray):Ln × Nat × Nat:=if (lexS s).2.2≠0 then (lnNil,(lexS s).2.1,(lexS s).2.2) else parseL s.size (lexS s).1
theorem isS_val {t:Tok} {c:UInt8}:(((t.kind:Int)==3) && (ByteArray.toList t.text==ByteArray.toList ⟨#[c]⟩))=isS t c:=by
 unfold isS
 rw [ByteArray.toList_eq,ByteArray.toList_eq]
 congr 1
 by_cases h:t.kind=3
 ·rw [h]; rfl
 ·have h1:((t.kind:Int)==3)=false:=by simp; omega
  have h2:(t.kind==3)=false:=by simp; omega
  rw [h1,h2]
theorem is_hc (t:Tok) (c:UInt8) (h:Hp):HC Tryz.prog 28 #[.agg #[.int .i64 t.kind,.string t.text,.int .u32 t.num,.int .i64 t.at_],.string ⟨#[c]⟩] h fun v h'=>v=.bool (isS t c)∧Ext h h':=by
 refine hcr_of (args:=[.agg #[.int .i64 t.kind,.string t.text,.int .u32 t.num,.int .i64 t.at_],.string ⟨#[c]⟩]) mixed Tryz.func28 (by kernel_rfl) (t_line_is_eq _ _ _ _ _) ?_
 unfold t_line_is
 refine newB ?_
 intro h1 b1 e1 z1
 refine loads_box b1 ((t.kind:Int),()) rfl ?_
 dsimp only [flat,unc,unc1,nA,cA]
 rw [← isS_val]
 refine cond_mk (fun g1=>?_) (fun g1=>?_)
 ·rw [add_box]
  refine loads_box b1 (t.text,()) rfl ?_
  exact ⟨by rw [g1]; rfl,e1⟩
 ·exact ⟨by rw [g1]; rfl,e1⟩
theorem sign_hc (t:Tok) (c:UInt8) (h:Hp):HC Tryz.prog 49 #[.agg #[.int .i64 t.kind,.string t.text,.int .u32 t.num,.int .i64 t.at_],.string ⟨#[c]⟩] h fun v h'=>v=.bool (isS t c)∧Ext h h':=by
 refine hcr_of (args:=[.agg #[.int .i64 t.kind,.string t.text,.int .u32 t.num,.int .i64 t.at_],.string ⟨#[c]⟩]) mixed Tryz.func49 (by kernel_rfl) (t_spandrelref3_sign_eq _ _ _ _ _) ?_
 unfold t_spandrelref3_sign
 refine newB ?_
 intro h1 b1 e1 z1
 refine loads_box b1 ((t.kind:Int),()) rfl ?_
 dsimp only [flat,unc,unc1,nA,cA]
 rw [← isS_val]
 refine cond_mk (fun g1=>?_) (fun g1=>?_)
 ·rw [add_box]
  refine loads_box b1 (t.text,()) rfl ?_
  exact ⟨by rw [g1]; rfl,e1⟩
 ·exact ⟨by rw [g1]; rfl,e1⟩
structure In where
 p:Option Addr
 l:Nat
 c:Nat
 ts:List Tok
def In.val (a:In):List Value:=[.slice a.p a.l a.c]
structure Args (h:Hp) (b:Nat) (te es:TypeId) (p:Option Addr) (c:Nat) (al:List In):Prop where
 out:SL h b te 1 p al.length c (al.map In.val)
 inn:∀ a,a∈al→SL h b es 4 a.p a.l a.c (a.ts.map enc)
 po:∀ a,a∈al→∀ i,i∈blkOf a.p→i∉blkOf p
 pp:al.Pairwise fun a a'=>∀ i,i∈blkOf a.p→i∉blkOf a'.p
theorem Args.keep {ws:List Nat} {h h':Hp} {b:Nat} {te es:TypeId} {p:Option Addr} {c:Nat} {al:List In} (A:Args h b te es p c al) (k:Ch ws h h') (h1:∀ i,i∈blkOf p→i∉ws) (h2:∀ a,a∈al→∀ i,i∈blkOf a.p→i∉ws):Args h' b te es p c al :=
 ⟨A.out.keep' k h1,fun a ha=>(A.inn a ha).keep' k (h2 a ha),A.po,A.pp⟩
theorem Args.mono {h:Hp} {b b':Nat} {te es:TypeId} {p:Option Addr} {c:Nat} {al:List In} (A:Args h b te es p c al) (hb:b'≤b):Args h b' te es p c al :=
 ⟨A.out.mono hb,fun a ha=>(A.inn a ha).mono hb,A.po,A.pp⟩
theorem Args.nil (h:Hp) (b:Nat) (te es:TypeId):Args h b te es none 0 []:=⟨SL.nil _ _ _ _,by simp,by simp,List.Pairwise.nil⟩
theorem Args.snoc {h h':Hp} {b:Nat} {te es:TypeId} {p p':Option Addr} {c c':Nat} {al:List In} (A:Args h b te es p c al) {a:In} (hb:b≤h.size) (o:SL h' b te 1 p' (al.length+1) c' (al.map In.val++[a.val])) (k:Ch (blkOf p) h h') (hp:p'=p∨∃ x,p'=some x∧h.size≤x.block)
  (ha:SL h b es 4 a.p a.l a.c (a.ts.map enc)) (h1:∀ i,i∈blkOf a.p→i∉blkOf p) (h2:∀ x,x∈al→∀ i,i∈blkOf x.p→i∉blkOf a.p):Args h' b te es p' c' (al++[a]):=by
 have hp':∀ i,i∈blkOf p'→i∈blkOf p∨h.size≤i:=by
  intro i hi
  rcases hp with rfl | ⟨x,rfl,hx⟩
  ·exact .inl hi
  ·simp [blkOf] at hi; right; omega
 refine ⟨by rw [List.length_append,List.map_append]; exact o,fun x hx=>?_,fun x hx i hi hh=>?_,List.pairwise_append.2 ⟨A.pp,by simp,fun x hx y hy i hi=>?_⟩⟩
 ·rcases List.mem_append.1 hx with hx | hx
  ·exact (A.inn x hx).keep' k fun i hi=>A.po x hx i hi
  ·have hx:x=a:=by simpa using hx
   subst hx
   exact ha.keep' k h1
 ·rcases List.mem_append.1 hx with hx | hx
  ·rcases hp' i hh with h' | h'
   ·exact A.po x hx i hi h'
   ·have:=((A.inn x hx).blk hi).2; omega
  ·have hx:x=a:=by simpa using hx
   subst hx
   rcases hp' i hh with h' | h'
   ·exact h1 i hi h'
   ·have:=(ha.blk hi).2; omega
 ·have hy:y=a:=by simpa using hy
  subst hy
  exact h2 x hx i hi
theorem Args.last {h h' h'':Hp} {b:Nat} {te es:TypeId} {p:Option Addr} {c:Nat} {dn:List In} {a a':In} (A:Args h b te es p c (dn++[a])) (ha:SL h' b es 4 a'.p a'.l a'.c (a'.ts.map enc)) (k:Ch (blkOf a.p) h h') (hp:a'.p=a.p∨∃ x,a'.p=some x∧h.size≤x.block)
  (o:SL h'' b te 1 p (dn++[a]).length c (((dn++[a]).map In.val).set dn.length a'.val)) (k':Ch (blkOf p) h' h''):Args h'' b te es p c (dn++[a']):=by
 have hp':∀ i,i∈blkOf a'.p→i∈blkOf a.p∨h.size≤i:=by
  intro i hi
  rcases hp with hp | ⟨x,hp,hx⟩
  ·rw [hp] at hi; exact .inl hi
  ·rw [hp] at hi; simp [blkOf] at hi; right; omega
 obtain ⟨A1,A2,A3,A4⟩:=A
 have hpp:=List.pairwise_append.1 A4
 have hset:((dn++[a]).map In.val).set dn.length a'.val=(dn++[a']).map In.val:=by
  rw [List.map_append,List.map_append,List.set_append_right _ _ (by simp)]
  simp
 rw [hset] at o
 have pa:∀ i,i∈blkOf a.p→i∉blkOf p:=A3 a (by simp)
 have pa':∀ i,i∈blkOf a'.p→i∉blkOf p:=by
  intro i hi hh
  rcases hp' i hi with h1 | h1
  ·exact pa i h1 hh
  ·have:=(A1.blk hh).2; omega
 refine ⟨by simpa using o,fun x hx=>?_,fun x hx i hi=>?_,List.pairwise_append.2 ⟨hpp.1,by simp,fun x hx y hy i hi hh=>?_⟩⟩
 ·rcases List.mem_append.1 hx with hx | hx
  ·exact ((A2 x (by simp [hx])).keep' k fun i hi=>hpp.2.2 x hx a (by simp) i hi).keep' k' fun i hi=>A3 x (by simp [hx]) i hi
  ·have hx:x=a':=by simpa using hx
   subst hx
   exact ha.keep' k' pa'
 ·rcases List.mem_append.1 hx with hx | hx
  ·exact A3 x (by simp [hx]) i hi
  ·have hx:x=a':=by simpa using hx
   subst hx
   exact pa' i hi
 ·have hy:y=a':=by simpa using hy
  subst hy
  rcases hp' i hh with h1 | h1
  ·exact hpp.2.2 x hx a (by simp) i hi h1
  ·have:=((A2 x (by simp [hx])).blk hi).2; omega
structure Vw (h:Hp) (p:Option Addr) (l c:Nat) (us:List Tok):Prop where
 len:l=us.length
 cap:l≤c
 cells:∀ i,(hi:i<us.length)→∃ a,p=some a∧cellsAt h (a.add (i*4)) 0 (enc us[i])
theorem Vw.keep {ws:List Nat} {h h':Hp} {p:Option Addr} {l c:Nat} {us:List Tok} (v:Vw h p l c us) (k:Ch ws h h') (hw:∀ i,i∈blkOf p→i∉ws):Vw h' p l c us :=
 ⟨v.len,v.cap,fun i hi=>by
  obtain ⟨a,ha,hc⟩:=v.cells i hi
  exact ⟨a,ha,cellsAt_keep k (by rw [add_block]; exact hw _ (by rw [ha]; simp [blkOf])) _ _ hc⟩⟩
theorem SL.vw {h:Hp} {b:Nat} {e:TypeId} {p:Option Addr} {l c:Nat} {us:List Tok} (s:SL h b e 4 p l c (us.map enc)):Vw h p l c us:=by
 refine ⟨by rw [s.1,List.length_map],?_,fun i hi=>?_⟩
 ·cases p with
  | none =>
   have h1:=s.1
   rw [s.2.2.2,List.length_nil] at h1
   omega
  | some a=>obtain ⟨_,_,_,_,_,hh,_⟩:=s.2.2; exact hh.1
 ·obtain ⟨a,ha,hc⟩:=s.cells (i:=i) (by simpa using hi)
  rw [List.getElem_map] at hc
  exact ⟨a,ha,hc⟩
theorem add_add (a:Addr) (i j:Nat):(a.add i).add j=a.add (i+j):=by
 unfold Addr.add
 by_cases hi:i=0 <;> by_cases hj:j=0 <;> simp [hi,hj] <;> omega
theorem Vw.drop {h:Hp} {p:Option Addr} {l c:Nat} {us:List Tok} (v:Vw h p l c us) {k:Nat} (hk:k≤l):Vw h (if c=k then p else p.map fun a=>a.add (k*4)) (l-k) (c-k) (us.drop k):=by
 have:=v.len
 have:=v.cap
 refine ⟨by rw [List.length_drop]; omega,by omega,fun i hi=>?_⟩
 rw [List.length_drop] at hi
 rw [if_neg (by omega)]
 obtain ⟨a,rfl,hc⟩:=v.cells (k+i) (by omega)
 refine ⟨_,rfl,?_⟩
 rw [add_add,← Nat.add_mul,List.getElem_drop]
 exact hc
theorem blkOf_if (p:Option Addr) (c k n:Nat):blkOf (if c=k then p else p.map fun a=>a.add n)=blkOf p:=by
 split
 ·rfl
 ·exact blkOf_add p n
def argsPost (n:Nat) (ts:List Tok) (h:Hp) (v:Value) (h':Hp):Prop :=
 Ext h h'∧match argsA n ts with
 | .error a=>v=.tuple #[.slice none 0 0,.int .i64 a,.int .i64 20]
 | .ok l=>∃ p c al,v=.tuple #[.slice p al.length c,.int .i64 0,.int .i64 0]∧Args h' h.size 42 57 p c al∧al.map In.ts=l
abbrev argCs:List Comp:=[(false,[.slice 0]),(false,[.int .i64]),(false,[.int .i64]),(false,[.slice 0]),(false,[.int .i64])]
def argI (n:Nat) (us:List Tok) (h:Hp) (x:HVs (flat argCs)) (m:Nat) (h':Hp):Prop :=
 ∃ (i:Nat) (dn:List In) (cu:In),x.2.2.2.2.1=(i:Int)∧i≤us.length∧m=us.length-i∧Ext h h'∧x.2.2.2.1.2.1=dn.length+1∧Args h' h.size 42 57 x.2.2.2.1.1 x.2.2.2.1.2.2 (dn++[cu]) ∧
  argsS n us [] []=argsS n (us.drop i) (dn.map In.ts) cu.ts∧dn.length≤i∧cu.ts.length≤i
theorem tokZ:(Tryz.prog.info? 57).map (fun i=>(i.zero,i.size,i.bytes))=some (some (.agg #[.int .i64 0,.string ⟨#[]⟩,.int .u32 0,.int .i64 0]),4,40):=by kernel_rfl
theorem slZ:(Tryz.prog.info? 42).map (fun i=>(i.zero,i.size,i.bytes))=some (some (.slice none 0 0),1,24):=by kernel_rfl
theorem und38:Tryz.prog.underlying 37=some (.slice 42):=by kernel_rfl
theorem und23:Tryz.prog.underlying 42=some (.slice 57):=by kernel_rfl
theorem arguments_hc (s:ByteArray) {h:Hp} {pp:Option Addr} {ll cc:Nat} {us:List Tok} (hu:us.length≤2^40) (sl:Vw h pp ll cc us) :
  HC Tryz.prog 29 #[.string s,.slice pp ll cc] h (argsPost s.size us h):=by
 refine hcr_of (args:=[.string s,.slice pp ll cc]) mixed Tryz.func29 (by kernel_rfl) (t_line_arguments_eq s pp ll cc) ?_
 unfold t_line_arguments
 have hll:ll=us.length:=sl.len
 refine cond_mk (fun g1=>?_) (fun g1=>?_)
 ·have g1:(ll:Int)=0:=eq_of_beq g1
  have:us=[]:=List.eq_nil_of_length_eq_zero (by omega)
  subst this
  exact ⟨Ch.refl _ _,none,0,[],rfl,Args.nil _ _ _ _,rfl⟩
 have g1:(ll:Int)≠0:=ne_of_beq_false g1
 have hne:us≠[]:=fun hh=>by rw [hh] at hll; simp at hll; omega
 refine lit_of (e:=42) (cells:=[.slice none 0 0]) und38 slZ (by omega) (by omega) (by kernel_rfl) ?_
 intro h1 b1 e1 z1
 have A1:Args h1 h.size 42 57 (some ⟨h.size,0,none⟩) 1 ([]++[⟨none,0,0,[]⟩]):=by
  refine ⟨⟨rfl,by simp [In.val],h.size,[],[],rfl,Nat.le_refl _,⟨by simp,by omega⟩,?_,rfl⟩,?_,?_,by simp⟩
  ·simpa [In.val] using b1
  ·intro a ha
   have ha:a=⟨none,0,0,[]⟩:=by simpa using ha
   subst ha
   exact SL.nil _ _ _ _
  ·intro a ha i hi
   have ha:a=⟨none,0,0,[]⟩:=by simpa using ha
   subst ha
   simp [blkOf] at hi
 refine loop_of (cs:=argCs) (argI s.size us h) ((none,0,0),(0:Int),(0:Int),(some ⟨h.size,0,none⟩,1,1),(0:Int),()) us.length rfl
  ⟨0,[],⟨none,0,0,[]⟩,rfl,by omega,by omega,e1,rfl,A1,rfl,by simp,by simp⟩ ?_
 clear A1 b1 e1 z1 h1
 rintro ⟨⟨p5,l6,l7⟩,n8,n9,⟨p10,l11,l12⟩,n13,⟨⟩⟩ m h2 ⟨i,dn,cu,hi,hile,rfl,e2,hl11,A,hrec,hdn,hcu⟩
 simp only at hi hl11 A
 subst hi hl11
 dsimp only [argCs,flat,unc,unc1,nA,cA]
 have hlen:(dn++[cu]).length=dn.length+1:=by simp
 have hwl:IntKind.wrap .i64 (((dn.length+1:Nat):Int)-1)=(dn.length:Int):=by rw [wrap_i64 (by omega) (by omega)]; omega
 rw [hwl]
 have hlast:∀ {hh:Hp} {p':Option Addr} {c':Nat},Args hh h.size 42 57 p' c' (dn++[cu])→∃ a,p'=some a∧cellsAt hh (a.add (dn.length*1)) 0 [.slice cu.p cu.l cu.c]:=by
  intro hh p' c' A'
  obtain ⟨a,ha,hc⟩:=A'.out.cells (i:=dn.length) (by simp)
  refine ⟨a,ha,?_⟩
  have:((dn++[cu]).map In.val)[dn.length]'(by simp)=[.slice cu.p cu.l cu.c]:=by simp [In.val]
  rw [this] at hc
  exact hc
 have hcul:cu.l=cu.ts.length:=by have:=(A.inn cu (by simp)).1; rw [this,List.length_map]
 refine cond_mk (fun g2=>?_) (fun g2=>?_)
 ·have g2:=of_decide_eq_true g2
  have hlt:i<us.length:=by omega
  obtain ⟨a,rfl,hcell⟩:=(sl.keep e2 (by simp)).cells i hlt
  have hdr:us.drop i=us[i]::us.drop (i+1):=List.drop_eq_getElem_cons hlt
  rw [hdr] at hrec
  generalize us[i]=t at hcell hrec
  refine need_of ⟨by omega,by omega⟩ (osome_mk rfl ?_)
  rw [show Int.toNat (i:Int)=i by omega]
  refine loads_of ((t.kind:Int),t.text,(t.num:Int),(t.at_:Int),()) hcell ?_
  dsimp only [flat,unc,unc1,nA,cA]
  refine newB ?_
  intro h3 b3 e3 z3
  refine stores_of b3 rfl (by simp) ?_
  intro h4 b4 k4 z4
  have b4:Box h4 h2.size 57 (enc t):=b4
  have e24:Ext h2 h4:=Ch.trans e3 k4 (fun j hj hjl=>by simp at hj; omega)
  have A4:=A.keep e24 (by simp) (by simp)
  have hld:∀ {hh:Hp} {L:Lp} {K:Value→Hp→Prop} {kk:Int→ByteArray→Int→Int→T},Ext h4 hh→kk t.kind t.text t.num t.at_ L K hh→T.loads (⟨h2.size,0,none⟩:Addr) [.int .i64,.string,.int .u32,.int .i64] kk L K hh:=by
   intro hh L K kk e hk
   exact loads_box (b4.keep e (by simp)) ((t.kind:Int),t.text,(t.num:Int),(t.at_:Int),()) rfl hk
  refine join_of (cs:=[(false,[.bool])]) (fun y h'=>y.1=(isS t 58 || (isS t 44 && decide (cu.ts=[])))∧Ext h4 h') ?_ ?_
  ·refine hld (Ch.refl _ _) ?_
   refine call_boolx (is_hc t 58 h4) ?_
   intro h5 e5
   refine cond_mk (fun g3=>?_) (fun g3=>?_)
   ·exact meet_mk (cs:=[(false,[.bool])]) (true,()) rfl rfl ⟨by rw [g3]; rfl,e5⟩
   ·refine hld e5 ?_
    refine call_boolx (is_hc t 44 h5) ?_
    intro h6 e6
    refine cond_mk (fun g4=>?_) (fun g4=>?_)
    ·obtain ⟨a',ha',hc'⟩:=hlast (A4.keep (e5.trans e6) (by simp) (by simp))
     refine need_of ⟨by omega,by omega⟩ (osome_mk ha' ?_)
     rw [show Int.toNat (dn.length:Int)=dn.length by omega]
     refine loads_of ((cu.p,cu.l,cu.c),()) hc' ?_
     dsimp only [flat,unc,unc1,nA,cA]
     refine meet_mk (cs:=[(false,[.bool])]) (((cu.l:Int)==0),()) rfl rfl ⟨?_,e5.trans e6⟩
     show ((cu.l:Int)==0)=_
     rw [g3,g4,Bool.false_or,Bool.true_and,hcul]
     by_cases hh:cu.ts=[]
     ·rw [hh]; rfl
     ·have:cu.ts.length≠0:=fun h0=>hh (List.eq_nil_of_length_eq_zero h0)
      rw [decide_eq_false hh]
      simp only [beq_eq_false_iff_ne,ne_eq]
      omega
    ·exact meet_mk (cs:=[(false,[.bool])]) (false,()) rfl rfl ⟨by rw [g3,g4]; rfl,e5.trans e6⟩
  ·rintro ⟨b20,⟨⟩⟩ h5 ⟨hb20,e5⟩
   simp only at hb20
   subst hb20
   dsimp only [flat,unc,unc1,nA,cA]
   have e25:=e2.trans (e24.trans e5)
   refine cond_mk (fun g3=>?_) (fun g3=>?_)
   ·rw [add_box]
    refine loads_box (b4.keep e5 (by simp)) ((t.at_:Int),()) rfl ?_
    refine ⟨⟨(b4.keep e5 (by simp)).cells _ rfl,trivial⟩,?_⟩
    refine ⟨e25,?_⟩
    have:argsA s.size us=.error t.at_:=by
     unfold argsA
     rw [if_neg hne,hrec]
     unfold argsS
     rw [if_pos g3]
    rw [this]
   ·rw [show argsS s.size (t::us.drop (i+1)) (dn.map In.ts) cu.ts=if isS t 44=true then argsS s.size (us.drop (i+1)) (dn.map In.ts++[cu.ts]) [] else argsS s.size (us.drop (i+1)) (dn.map In.ts) (cu.ts++[t]) by
     conv=>lhs; unfold argsS
     rw [if_neg (by rw [g3]; simp)]] at hrec
    refine hld e5 ?_
    refine call_boolx (is_hc t 44 h5) ?_
    intro h6 e6
    have hw:IntKind.wrap .i64 ((i:Int)+1)=((i+1:Nat):Int):=by rw [wrap_i64 (by omega) (by omega)]; omega
    have A6:=A4.keep (e5.trans e6) (by simp) (by simp)
    have e26:Ext h h6:=e25.trans e6
    have hs6:=e26.size
    refine cond_mk (fun g4=>?_) (fun g4=>?_)
    ·rw [if_pos g4] at hrec
     refine push_of (e:=42) (vs:=[.slice none 0 0]) und38 slZ rfl (by omega) (by omega) (by kernel_rfl) rfl rfl (by rw [← hlen]; exact A6.out) hs6 (by omega) (by omega) ?_
     intro p' c' h7 o7 k7 hp7
     refine again_mk (cs:=argCs) ((p5,l6,l7),n8,n9,(p',dn.length+1+1,c'),((i+1:Nat):Int),()) (us.length-(i+1)) rfl (by omega) (by rw [hw]; rfl) ?_
     refine ⟨i+1,dn++[cu],⟨none,0,0,[]⟩,rfl,by omega,rfl,?_,by simp,A6.snoc hs6 (by rw [hlen]; exact o7) k7 hp7 (SL.nil _ _ _ _) (by simp [blkOf]) (by simp [blkOf]),?_,by simp; omega,by simp⟩
     ·exact Ch.trans e26 k7 (fun j hj hjl=>by have:=(A6.out.blk hj).1; omega)
     ·rw [hrec,List.map_append]; rfl
    ·rw [if_neg (by rw [g4]; simp)] at hrec
     obtain ⟨a',rfl,hc'⟩:=hlast A6
     refine need_of ⟨by omega,by omega⟩ (osome_mk rfl ?_)
     rw [show Int.toNat (dn.length:Int)=dn.length by omega]
     refine loads_of ((cu.p,cu.l,cu.c),()) hc' ?_
     dsimp only [flat,unc,unc1,nA,cA]
     refine hld (e5.trans e6) ?_
     have ab:a'.block∈blkOf (some a'):=by simp [blkOf]
     refine push_st (e:=57) (vs:=enc t) und23 tokZ rfl (by omega) (by omega) (by kernel_rfl) rfl rfl (A6.inn cu (by simp)) hs6 (by omega) (by omega) (fun h' e=>⟨cellsAt_keep e (by simp) _ _ hc',trivial⟩) ?_
     intro p7 c7 h7 o7 k7 hp7
     have hch7:h2.size∉blkOf cu.p:=fun hh=>by have:=((A.inn cu (by simp)).blk hh).2; omega
     refine ⟨⟨((b4.keep (e5.trans e6) (by simp)).keep k7 hch7).cells _ rfl,trivial⟩,?_⟩
     refine need_of ⟨by omega,by omega⟩ (osome_mk rfl ?_)
     have o6:=A6.out.keep' k7 (fun j hj hh=>A6.po cu (by simp) j hh hj)
     refine o6.store (P:=Tryz.prog) (i:=dn.length) (by simp) (vs:=[.slice p7 (cu.l+1) c7]) rfl rfl rfl ?_
     intro h8 o8 k8 z8
     refine again_mk (cs:=argCs) ((p5,l6,l7),n8,n9,(some a',dn.length+1,l12),((i+1:Nat):Int),()) (us.length-(i+1)) rfl (by omega) (by rw [hw]; rfl) ?_
     refine ⟨i+1,dn,⟨p7,cu.l+1,c7,cu.ts++[t]⟩,rfl,by omega,rfl,?_,rfl,?_,hrec,by omega,by simp; omega⟩
     ·refine Ch.trans (Ch.trans e26 k7 (fun j hj hjl=>by have:=((A6.inn cu (by simp)).blk hj).1; omega)) k8 (fun j hj hjl=>by have:=(A6.out.blk hj).1; omega)
     ·exact A6.last (a':=⟨p7,cu.l+1,c7,cu.ts++[t]⟩) (by rw [List.map_append]; exact o7) k7 hp7 o8 k8
 ·have g2:=of_decide_eq_false g2
  have hi:i=us.length:=by omega
  subst hi
  rw [List.drop_length] at hrec
  obtain ⟨a',rfl,hc'⟩:=hlast A
  refine need_of ⟨by omega,by omega⟩ (osome_mk rfl ?_)
  rw [show Int.toNat (dn.length:Int)=dn.length by omega]
  refine loads_of ((cu.p,cu.l,cu.c),()) hc' ?_
  dsimp only [flat,unc,unc1,nA,cA]
  have hA:argsA s.size us=if cu.ts=[] then .error s.size else .ok (dn.map In.ts++[cu.ts]):=by
   unfold argsA
   rw [if_neg hne,hrec]
   rfl
  refine cond_mk (fun g3=>?_) (fun g3=>?_)
  ·have g3:(cu.l:Int)=0:=eq_of_beq g3
   refine ⟨e2,?_⟩
   rw [hA,if_pos (List.eq_nil_of_length_eq_zero (by omega))]
  ·have g3:(cu.l:Int)≠0:=ne_of_beq_false g3
   refine ⟨e2,?_⟩
   rw [hA,if_neg (fun hh=>by rw [hh] at hcul; simp at hcul; omega)]
   exact ⟨some a',l12,dn++[cu],by rw [hlen],A,by simp⟩
abbrev PRes:=Except Nat (Lin × List Tok)
def negB (b:Bool) (x:Lin):Lin:=if b=true then linT x 4294967295 else x
def linZ:Lin:=⟨[],0⟩
def facH (o:Option (List Tok→PRes)) (ts:List Tok):PRes :=
 match ts with
 | []=>.error 20
 | t::r =>
  if t.kind=1 then if (regL t.text.data.toList).2.2=true then .error 20 else .ok (⟨[(t.text,1)],0⟩,r)
  else if t.kind=2 then .ok (⟨[],t.num⟩,r)
  else if isS t 40=true then match o with
   | none=>.error 21
   | some f=>match f r with
    | .error e=>.error e
    | .ok (x,r')=>match r' with
     | []=>.error 20
     | t'::r''=>if isS t' 41=true then .ok (x,r'') else .error 20
  else .error 20
def facS (o:Option (List Tok→PRes)) (b:Bool) (ts:List Tok):PRes :=
 match facH o ts with
 | .error e=>.error e
 | .ok (x,r)=>.ok (negB b x,r)
def facN (o:Option (List Tok→PRes)):Bool→List Tok→PRes
 | b,[]=>facS o b []
 | b,t::r=>if isS t 45=true then facN o (!b) r else facS o b (t::r)
def facG (o:Option (List Tok→PRes)) (ts:List Tok):PRes:=facN o false ts
def partL (fac:List Tok→PRes):Nat→Lin→List Tok→PRes
 | 0,x,r=>.ok (x,r)
 | n+1,x,r=>match r with
  | []=>.ok (x,[])
  | t::r'=>if isS t 42=true then match fac r' with
    | .error e=>.error e
    | .ok (y,r'')=>if x.terms≠[]∧y.terms≠[] then .error 21 else if y.terms≠[] then partL fac n (linT y x.num) r'' else partL fac n (linT x y.num) r''
   else .ok (x,t::r')
def partG (fac:List Tok→PRes) (ts:List Tok):PRes :=
 match fac ts with
 | .error e=>.error e
 | .ok (x,r)=>partL fac r.length x r
def sumL (part:List Tok→PRes):Nat→Lin→List Tok→PRes
 | 0,x,r=>.ok (x,r)
 | n+1,x,r=>match r with
  | []=>.ok (x,[])
  | t::r'=>if isS t 43=true then match part r' with
    | .error e=>.error e
    | .ok (y,r'')=>sumL part n (linA x y) r''
   else if isS t 45=true then match part r' with
    | .error e=>.error e
    | .ok (y,r'')=>sumL part n (linA x (linT y 4294967295)) r''
   else .ok (x,t::r')
def sumG (part:List Tok→PRes) (ts:List Tok):PRes :=
 match part ts with
 | .error e=>.error e
 | .ok (x,r)=>sumL part r.length x r
def sumD:Nat→List Tok→PRes
 | 0=>sumG (partG (facG none))
 | k+1=>sumG (partG (facG (some (sumD k))))
def parseX (ts:List Tok):Except Nat Lin :=
 match sumD 32 ts with
 | .error e=>.error e
 | .ok (x,r)=>if r=[] then .ok x else .error 20
structure Good (x:Lin):Prop where
 nf:Nf x.terms
 legal:∀ t,t∈x.terms→legalL t.1.data.toList=true
 num:x.num<4294967296
theorem legal_size {s:ByteArray} (h:legalL s.data.toList=true):s.size≤32:=by
 unfold legalL at h
 simp only [Bool.and_eq_true,decide_eq_true_eq] at h
 have:s.data.toList.length=s.size:=by simp
 omega
theorem Good.size {x:Lin} (g:Good x):∀ t,t∈x.terms→t.1.size≤maxLen:=fun t ht=>by
 have:=legal_size (g.legal t ht)
 unfold maxLen; omega
theorem Good.z:Good linZ:=⟨Nf.nil,by simp [linZ],by simp [linZ]⟩
theorem Good.T {x:Lin} (g:Good x) (n:Nat):Good (linT x n) :=
 ⟨timesN_nf g.nf,fun t ht=>by obtain ⟨p,hp,e⟩:=mem_timesN ht; rw [← e]; exact g.legal p hp,Nat.mod_lt _ (by decide)⟩
theorem Good.A {x y:Lin} (g:Good x) (k:Good y):Good (linA x y) :=
 ⟨addM_nf g.nf k.nf,fun t ht=>by
  rcases mem_addM ht with ⟨p,hp,e⟩ | ⟨p,hp,e⟩
  ·rw [← e]; exact g.legal p hp
  ·rw [← e]; exact k.legal p hp,Nat.mod_lt _ (by decide)⟩
theorem Good.neg {x:Lin} (g:Good x) (b:Bool):Good (negB b x):=by
 unfold negB
 split
 ·exact g.T _
 ·exact g
theorem timesN_one {l:Tms} (h:Nf l):timesN 1 l=l :=
 Nf.uniq (timesN_nf h) h fun s=>by rw [cf_timesN,Nat.mul_one]
theorem linT_one {x:Lin} (g:Good x):linT x 1=x:=by
 unfold linT
 rw [timesN_one g.nf,Nat.mul_one,Nat.mod_eq_of_lt g.num]
structure WfT (t:Tok):Prop where
 num:t.num<4294967296
 name:t.kind=1→t.num=0∧legalL t.text.data.toList=!(regL t.text.data.toList).2.2
def Wf (ts:List Tok):Prop:=∀ t,t∈ts→WfT t
theorem Wf.suffix {r ts:List Tok} (w:Wf ts) (h:r <:+ ts):Wf r:=fun t ht=>w t (h.subset ht)
theorem Wf.tail {t:Tok} {r:List Tok} (w:Wf (t::r)):Wf r:=fun u hu=>w u (List.mem_cons_of_mem _ hu)
def Fine (ts:List Tok):PRes→Prop
 | .error e=>e=20∨e=21
 | .ok (x,r)=>Good x∧r <:+ ts∧r.length<ts.length∧x.terms.length+r.length≤ts.length
theorem good_named {s:ByteArray} (h:legalL s.data.toList=true):Good ⟨[(s,1)],0⟩ :=
 ⟨⟨by simp,by simp⟩,by simpa using h,by simp⟩
theorem facH_fine {o:Option (List Tok→PRes)} (ho:∀ f,o=some f→∀ ts,Wf ts→Fine ts (f ts)) {ts:List Tok} (w:Wf ts):Fine ts (facH o ts):=by
 unfold facH
 cases ts with
 | nil=>exact .inl rfl
 | cons t r =>
  simp only
  split
  ·rename_i h1
   split
   ·exact .inl rfl
   ·rename_i h2
    have h3:=((w t (List.mem_cons_self ..)).name h1).2
    rw [Bool.not_eq_true] at h2
    rw [h2] at h3
    exact ⟨good_named h3,List.suffix_cons _ _,by simp,by simp; omega⟩
  ·split
   ·exact ⟨⟨Nf.nil,by simp,(w t (List.mem_cons_self ..)).num⟩,List.suffix_cons _ _,by simp,by simp⟩
   ·split
    ·cases o with
     | none=>exact .inr rfl
     | some f =>
      simp only
      have hf:=ho f rfl r w.tail
      revert hf
      cases f r with
      | error e=>exact id
      | ok q =>
       obtain ⟨x,r'⟩:=q
       rintro ⟨g,s,l,n⟩
       simp only
       cases r' with
       | nil=>exact .inl rfl
       | cons t' r'' =>
        simp only
        split
        ·refine ⟨g,((List.suffix_cons _ _).trans s).trans (List.suffix_cons _ _),?_,?_⟩
         ·simp only [List.length_cons] at l ⊢; omega
         ·simp only [List.length_cons] at n ⊢; omega
        ·exact .inl rfl
    ·exact .inl rfl
theorem negB_length (b:Bool) (x:Lin):(negB b x).terms.length≤x.terms.length:=by
 unfold negB
 split
 ·exact timesN_length _ _
 ·exact Nat.le_refl _
theorem facS_fine {o:Option (List Tok→PRes)} (ho:∀ f,o=some f→∀ ts,Wf ts→Fine ts (f ts)) {ts:List Tok} (w:Wf ts) (b:Bool):Fine ts (facS o b ts):=by
 unfold facS
 have:=facH_fine ho w
 revert this
 cases facH o ts with
 | error e=>exact id
 | ok q =>
  obtain ⟨x,r⟩:=q
  rintro ⟨g,s,l,n⟩
  have:=negB_length b x
  exact ⟨g.neg b,s,l,by omega⟩
theorem Fine.cons {t:Tok} {r:List Tok} {q:PRes} (h:Fine r q):Fine (t::r) q:=by
 cases q with
 | error e=>exact h
 | ok q =>
  obtain ⟨g,s,l,n⟩:=h
  exact ⟨g,s.trans (List.suffix_cons _ _),by simp only [List.length_cons]; omega,by simp only [List.length_cons]; omega⟩
theorem facN_fine {o:Option (List Tok→PRes)} (ho:∀ f,o=some f→∀ ts,Wf ts→Fine ts (f ts)):∀ {ts:List Tok} (b:Bool),Wf ts→Fine ts (facN o b ts)
 | [],b,w=>by unfold facN; exact facS_fine ho w b
 | t::r,b,w=>by
  unfold facN
  split
  ·exact (facN_fine ho _ w.tail).cons
  ·exact facS_fine ho w b
theorem facG_fine {o:Option (List Tok→PRes)} (ho:∀ f,o=some f→∀ ts,Wf ts→Fine ts (f ts)) (ts:List Tok) (w:Wf ts):Fine ts (facG o ts):=facN_fine ho _ w
def FineL (m:Nat) (ts:List Tok):PRes→Prop
 | .error e=>e=20∨e=21
 | .ok (x,r)=>Good x∧r <:+ ts∧x.terms.length+r.length≤m
theorem partL_fine {fac:List Tok→PRes} (hf:∀ ts,Wf ts→Fine ts (fac ts)):∀ (n:Nat) {x:Lin} {r:List Tok},Good x→Wf r→FineL (x.terms.length+r.length) r (partL fac n x r)
 | 0,x,r,g,w=>⟨g,List.suffix_refl _,Nat.le_refl _⟩
 | n+1,x,[],g,w=>⟨g,List.suffix_refl _,Nat.le_refl _⟩
 | n+1,x,t::r',g,w=>by
  unfold partL
  simp only
  split
  ·have h1:=hf r' w.tail
   revert h1
   cases fac r' with
   | error e=>exact id
   | ok q =>
    obtain ⟨y,r''⟩:=q
    rintro ⟨k,s,l,n1⟩
    simp only
    have hs:=s.trans (List.suffix_cons t _)
    split
    ·exact .inr rfl
    ·split
     ·have h2:=partL_fine hf n (k.T x.num) (w.suffix hs)
      revert h2
      have:=timesN_length x.num y.terms
      cases partL fac n (linT y x.num) r'' with
      | error e=>exact id
      | ok q =>
       rintro ⟨a,b,c⟩
       refine ⟨a,b.trans hs,?_⟩
       simp only [linT,List.length_cons] at c ⊢
       omega
     ·have h2:=partL_fine hf n (g.T y.num) (w.suffix hs)
      revert h2
      have:=timesN_length y.num x.terms
      cases partL fac n (linT x y.num) r'' with
      | error e=>exact id
      | ok q =>
       rintro ⟨a,b,c⟩
       refine ⟨a,b.trans hs,?_⟩
       simp only [linT,List.length_cons] at c ⊢
       omega
  ·exact ⟨g,List.suffix_refl _,Nat.le_refl _⟩
theorem partG_fine {fac:List Tok→PRes} (hf:∀ ts,Wf ts→Fine ts (fac ts)) (ts:List Tok) (w:Wf ts):Fine ts (partG fac ts):=by
 unfold partG
 have h1:=hf ts w
 revert h1
 cases fac ts with
 | error e=>exact id
 | ok q =>
  obtain ⟨x,r⟩:=q
  rintro ⟨g,s,l,n⟩
  have h2:=partL_fine hf r.length g (w.suffix s)
  revert h2
  simp only
  cases partL fac r.length x r with
  | error e=>exact id
  | ok q =>
   rintro ⟨a,b,c⟩
   exact ⟨a,b.trans s,by have:=b.length_le; omega,by omega⟩
theorem sumL_fine {part:List Tok→PRes} (hf:∀ ts,Wf ts→Fine ts (part ts)):∀ (n:Nat) {x:Lin} {r:List Tok},Good x→Wf r→FineL (x.terms.length+r.length) r (sumL part n x r)
 | 0,x,r,g,w=>⟨g,List.suffix_refl _,Nat.le_refl _⟩
 | n+1,x,[],g,w=>⟨g,List.suffix_refl _,Nat.le_refl _⟩
 | n+1,x,t::r',g,w=>by
  unfold sumL
  simp only
  split
  ·have h1:=hf r' w.tail
   revert h1
   cases part r' with
   | error e=>exact id
   | ok q =>
    obtain ⟨y,r''⟩:=q
    rintro ⟨k,s,l,n1⟩
    simp only
    have hs:=s.trans (List.suffix_cons t _)
    have h2:=sumL_fine hf n (g.A k) (w.suffix hs)
    revert h2
    have:=addM_length x.terms y.terms
    cases sumL part n (linA x y) r'' with
    | error e=>exact id
    | ok q =>
     rintro ⟨a,b,c⟩
     refine ⟨a,b.trans hs,?_⟩
     simp only [linA,List.length_cons] at c ⊢
     omega
  ·split
   ·have h1:=hf r' w.tail
    revert h1
    cases part r' with
    | error e=>exact id
    | ok q =>
     obtain ⟨y,r''⟩:=q
     rintro ⟨k,s,l,n1⟩
     simp only
     have hs:=s.trans (List.suffix_cons t _)
     have h2:=sumL_fine hf n (g.A (k.T 4294967295)) (w.suffix hs)
     revert h2
     have:=addM_length x.terms (timesN 4294967295 y.terms)
     have:=timesN_length 4294967295 y.terms
     cases sumL part n (linA x (linT y 4294967295)) r'' with
     | error e=>exact id
     | ok q =>
      rintro ⟨a,b,c⟩
      refine ⟨a,b.trans hs,?_⟩
      simp only [linA,linT,List.length_cons] at c ⊢
      omega
   ·exact ⟨g,List.suffix_refl _,Nat.le_refl _⟩
theorem sumG_fine {part:List Tok→PRes} (hf:∀ ts,Wf ts→Fine ts (part ts)) (ts:List Tok) (w:Wf ts):Fine ts (sumG part ts):=by
 unfold sumG
 have h1:=hf ts w
 revert h1
 cases part ts with
 | error e=>exact id
 | ok q =>
  obtain ⟨x,r⟩:=q
  rintro ⟨g,s,l,n⟩
  have h2:=sumL_fine hf r.length g (w.suffix s)
  revert h2
  simp only
  cases sumL part r.length x r with
  | error e=>exact id
  | ok q =>
   rintro ⟨a,b,c⟩
   exact ⟨a,b.trans s,by have:=b.length_le; omega,by omega⟩
theorem sumD_fine:∀ (k:Nat) (ts:List Tok),Wf ts→Fine ts (sumD k ts)
 | 0,ts,w=>sumG_fine (partG_fine (facG_fine (by intro f hf; cases hf))) ts w
 | k+1,ts,w=>sumG_fine (partG_fine (facG_fine (by rintro f hf; cases hf; exact sumD_fine k))) ts w
def PB (h:Hp) (A:Nat) (ts:List Tok) (d:Int) (e:Nat):Prop :=
 ∃ p l c,Box h A 160 [.slice p l c,.int .i64 d,.int .i64 (e:Int)]∧Vw h p l c ts∧∀ i,i∈blkOf p→i<A
theorem PB.keep {ws:List Nat} {h h':Hp} {A:Nat} {ts:List Tok} {d:Int} {e:Nat} (b:PB h A ts d e) (k:Ch ws h h') (hw:∀ i,i∈ws→A<i):PB h' A ts d e:=by
 obtain ⟨p,l,c,b,v,hp⟩:=b
 exact ⟨p,l,c,b.keep k (fun hm=>by have:=hw _ hm; omega),v.keep k (fun i hi hm=>by have:=hw _ hm; have:=hp _ hi; omega),hp⟩
theorem PB.lt {h:Hp} {A:Nat} {ts:List Tok} {d:Int} {e:Nat} (b:PB h A ts d e):A<h.size:=by
 obtain ⟨p,l,c,b,v,hp⟩:=b
 exact b.lt
abbrev ptr (a:Nat):Value:=.pointer (some ⟨a,0,none⟩)
structure Cl (h:Hp) (A a3 a4 a5 a6:Nat):Prop where
 b3:Box h a3 158 [ptr A]
 b4:Box h a4 161 [.func (.func 90) #[] #[ptr a6,ptr a3]]
 b5:Box h a5 161 [.func (.func 84) #[] #[ptr a3,ptr a4]]
 b6:Box h a6 161 [.func (.func 89) #[] #[ptr a5,ptr a3]]
 n3:A<a3
 n4:A<a4
 n5:A<a5
 n6:A<a6
theorem Cl.lt {h:Hp} {A a3 a4 a5 a6:Nat} (c:Cl h A a3 a4 a5 a6):a3<h.size∧a4<h.size∧a5<h.size∧a6<h.size:=⟨c.b3.lt,c.b4.lt,c.b5.lt,c.b6.lt⟩
theorem Cl.keep {ws:List Nat} {h h':Hp} {A a3 a4 a5 a6:Nat} (c:Cl h A a3 a4 a5 a6) (k:Ch ws h h') (hw:∀ i,i∈ws→i=A∨h.size≤i):Cl h' A a3 a4 a5 a6:=by
 have h3:=c.b3.lt
 have h4:=c.b4.lt
 have h5:=c.b5.lt
 have h6:=c.b6.lt
 have:=c.n3
 have:=c.n4
 have:=c.n5
 have:=c.n6
 exact ⟨c.b3.keep k (fun hm=>by have:=hw _ hm; omega),c.b4.keep k (fun hm=>by have:=hw _ hm; omega),c.b5.keep k (fun hm=>by have:=hw _ hm; omega),c.b6.keep k (fun hm=>by have:=hw _ hm; omega),by omega,by omega,by omega,by omega⟩
def signB (e:Nat) (ts:List Tok) (c:UInt8):Bool:=decide (e=0) && match ts with
 | []=>false
 | t::_=>isS t c
theorem tok_cells {h:Hp} {a:Addr} {t:Tok} (hc:cellsAt h (a.add (0*4)) 0 (enc t)):cellsAt h a 0 [.int .i64 (t.kind:Int)]∧cellsAt h (a.add 1) 0 [.string t.text]∧cellsAt h a 0 (enc t):=by
 rw [show a.add (0*4)=a by simp [Addr.add]] at hc
 obtain ⟨h1,h2,h3⟩:=hc
 exact ⟨⟨h1,trivial⟩,⟨by rw [add_add]; exact h2,trivial⟩,h1,h2,h3⟩
theorem sign79_hc {h:Hp} {A:Nat} {ts:List Tok} {d:Int} {e:Nat} (b:PB h A ts d e) (c:UInt8) :
  HC Tryz.prog 85 #[ptr A,.string ⟨#[c]⟩] h fun v h'=>v=.bool (signB e ts c)∧Ch [A] h h'∧h'.size=h.size∧PB h' A (if signB e ts c=true then ts.tail else ts) d e:=by
 obtain ⟨p,l,cc,b,v,hp⟩:=b
 refine hcr_of (args:=[ptr A,.string ⟨#[c]⟩]) mixed Tryz.func85 (by kernel_rfl) (t_expr_parser__sign_eq (some ⟨A,0,none⟩) ⟨#[c]⟩) ?_
 have no:signB e ts c=false→T.ret (.bool false) [] (fun v h'=>v=.bool (signB e ts c)∧Ch [A] h h'∧h'.size=h.size∧PB h' A (if signB e ts c=true then ts.tail else ts) d e) h:=by
  intro hn
  refine ⟨by rw [hn],Ch.refl _ _,rfl,?_⟩
  rw [if_neg (by rw [hn]; simp)]
  exact ⟨p,l,cc,b,v,hp⟩
 unfold t_expr_parser__sign
 refine osome_mk rfl ?_
 rw [add_box]
 refine loads_box b ((e:Int),()) rfl ?_
 dsimp only [flat,unc,unc1,nA,cA]
 have hlen:=v.len
 have hcap:=v.cap
 refine cond_mk (fun g1=>?_) (fun g1=>?_)
 ·have g1:¬ e=0:=by simpa using g1
  refine no ?_
  unfold signB
  rw [decide_eq_false g1]
  rfl
 ·have g1:e=0:=by simpa using g1
  subst g1
  refine osome_mk rfl (loads_box b ((p,l,cc),()) rfl ?_)
  dsimp only [flat,unc,unc1,nA,cA]
  refine cond_mk (fun g2=>?_) (fun g2=>?_)
  ·have g2:l=0:=by simpa using g2
   have:ts=[]:=List.length_eq_zero_iff.1 (by omega)
   subst this
   exact no rfl
  ·have g2:¬ l=0:=by simpa using g2
   cases ts with
   | nil=>simp at hlen; omega
   | cons t r =>
    obtain ⟨a,rfl,hc⟩:=v.cells 0 (by simp)
    obtain ⟨c1,c2,c3⟩:=tok_cells (t:=t) hc
    refine osome_mk rfl (loads_box b ((some a,l,cc),()) rfl ?_)
    dsimp only [flat,unc,unc1,nA,cA]
    refine need_of ⟨by omega,by omega⟩ (osome_mk rfl (loads_of ((t.kind:Int),()) c1 ?_))
    dsimp only [flat,unc,unc1,nA,cA]
    refine cond_mk (fun g3=>?_) (fun g3=>?_)
    ·have g3:¬ (t.kind:Int)=3:=by simpa using g3
     refine no ?_
     have g4:¬ t.kind=3:=by omega
     simp [signB,isS,g4]
    ·have g3:(t.kind:Int)=3:=by simpa using g3
     refine osome_mk rfl (loads_box b ((some a,l,cc),()) rfl ?_)
     dsimp only [flat,unc,unc1,nA,cA]
     refine need_of ⟨by omega,by omega⟩ (osome_mk rfl (loads_of (t.text,()) c2 ?_))
     dsimp only [flat,unc,unc1,nA,cA]
     have e0:signB 0 (t::r) c=(ByteArray.toList t.text==ByteArray.toList ⟨#[c]⟩):=by
      show (true && isS t c)=_
      rw [← isS_val,g3]
      rfl
     refine cond_mk (fun g4=>?_) (fun g4=>?_)
     ·refine no ?_
      rw [e0]
      simpa using g4
     ·have g4:signB 0 (t::r) c=true:=by
       rw [e0]
       simpa using g4
      refine osome_mk rfl (loads_box b ((some a,l,cc),()) rfl ?_)
      dsimp only [flat,unc,unc1,nA,cA]
      refine need_of ⟨by omega,by omega,by omega⟩ (osome_mk rfl ?_)
      refine stores_of b rfl (by simp) ?_
      intro h1 b1 k1 z1
      rw [g4]
      refine ⟨rfl,k1,z1,?_⟩
      rw [if_pos rfl]
      refine ⟨_,_,_,b1,((v.drop (k:=1) (by omega)).keep k1 ?_),?_⟩
      ·intro i hi hm
       rw [blkOf_if] at hi
       rw [List.mem_singleton] at hm
       have:=hp _ hi
       omega
      ·intro i hi
       exact hp _ (by have:=blkOf_if (some a) cc 1 4; rw [← this]; exact hi)
theorem refuse80_hc {h:Hp} {A:Nat} {ts:List Tok} {d:Int} {e:Nat} (b:PB h A ts d e) (w:Nat) :
  HC Tryz.prog 86 #[ptr A,.int .i64 (w:Int)] h fun v h'=>v=.tuple #[]∧Ch [A] h h'∧h'.size=h.size∧PB h' A ts d (if e=0 then w else e):=by
 obtain ⟨p,l,cc,b,v,hp⟩:=b
 refine hcr_of (args:=[ptr A,.int .i64 (w:Int)]) mixed Tryz.func86 (by kernel_rfl) (t_expr_parser__refuse_eq (some ⟨A,0,none⟩) w) ?_
 unfold t_expr_parser__refuse
 refine osome_mk rfl ?_
 rw [add_box]
 refine loads_box b ((e:Int),()) rfl ?_
 dsimp only [flat,unc,unc1,nA,cA]
 refine cond_mk (fun g1=>?_) (fun g1=>?_)
 ·have g1:e=0:=by simpa using g1
  refine osome_mk rfl ?_
  rw [add_box]
  refine stores_of b rfl (by simp) ?_
  intro h1 b1 k1 z1
  refine ⟨rfl,k1,z1,p,l,cc,?_,v.keep k1 ?_,hp⟩
  ·rw [if_pos g1]; exact b1
  ·intro i hi hm
   rw [List.mem_singleton] at hm
   have:=hp _ hi
   omega
 ·have g1:¬ e=0:=by simpa using g1
  exact ⟨rfl,Ch.refl _ _,rfl,p,l,cc,by rw [if_neg g1]; exact b,v,hp⟩
theorem named_hc (s:ByteArray) (h:Hp):HC Tryz.prog 87 #[.string s] h fun w h'=>Ext h h'∧∃ p l c,w=linV p l c ⟨[(s,1)],0⟩∧SL h' h.size 50 2 p l c ([(s,1)].map encT):=by
 refine hcr_of (args:=[.string s]) mixed Tryz.func87 (by kernel_rfl) (t_expr_Named_eq s) ?_
 unfold t_expr_Named
 refine newB ?_
 intro h1 b1 e1 z1
 refine lit_of (cells:=[.string s,.int .u32 1]) und67 termZ (by decide) (by decide) (by kernel_rfl) ?_
 intro h2 b2 e2 z2
 refine stores_of (b1.keep e2 (by simp)) rfl (by simp) ?_
 intro h3 b3 k3 z3
 have b3:Box h3 h.size 26 [.slice (some ⟨h1.size,0,none⟩) 1 1,.int .u32 0]:=b3
 refine loads_box b3 ((some ⟨h1.size,0,none⟩,1,1),(0:Int),()) rfl ?_
 refine ⟨Ch.trans (e1.trans e2) k3 (fun j hj hl=>by simp at hj; omega),some ⟨h1.size,0,none⟩,1,1,rfl,rfl,by simp [encT],h1.size,[],[],rfl,by omega,by omega,?_,rfl⟩
 exact b2.keep k3 (by simp; omega)
def PostR (n:Nat) (d:Int) (x:Lin) (ts':List Tok) (d':Int) (e':Nat):PRes→Prop
 | .error e=>e'=e∧e≠0∧x.terms.length≤n
 | .ok (y,r)=>e'=0∧x=y∧ts'=r∧d'=d
def ResP (h:Hp) (A:Nat) (n:Nat) (d:Int) (res:PRes) (v:Value) (h':Hp):Prop :=
 Ch [A] h h'∧∃ x p l c ts' d' e',v=linV p l c x∧SL h' h.size 50 2 p l c (x.terms.map encT)∧Good x∧PB h' A ts' d' e'∧PostR n d x ts' d' e' res
theorem hb29:hasBody Tryz.prog 90=true:=by kernel_rfl
def FacJ (h:Hp) (A A1 A21:Nat) (n:Nat) (d:Int) (res:PRes) (h':Hp):Prop :=
 Ch [A] h h'∧Box h' A1 26 [.slice none 0 0,.int .u32 0]∧∃ x p l c ts' d' e',Box h' A21 26 [.slice p l c,.int .u32 (x.num:Int)]∧SL h' h.size 50 2 p l c (x.terms.map encT)∧Good x∧PB h' A ts' d' e'∧PostR n d x ts' d' e' res
theorem Cl.keepA {ws:List Nat} {h h':Hp} {A a3 a4 a5 a6:Nat} (c:Cl h A a3 a4 a5 a6) (k:Ch ws h h') (hw:∀ i,i∈ws→i=A∨(a3<i∧a4<i∧a5<i∧a6<i)):Cl h' A a3 a4 a5 a6:=by
 have:=c.n3
 have:=c.n4
 have:=c.n5
 have:=c.n6
 exact ⟨c.b3.keep k (fun hm=>by have:=hw _ hm; omega),c.b4.keep k (fun hm=>by have:=hw _ hm; omega),c.b5.keep k (fun hm=>by have:=hw _ hm; omega),c.b6.keep k (fun hm=>by have:=hw _ hm; omega),by omega,by omega,by omega,by omega⟩
def negV (b:Bool):Nat:=if b=true then 4294967295 else 1
theorem negV_wrap (b:Bool):IntKind.wrap .u32 (0-((negV b:Nat):Int))=((negV (!b):Nat):Int):=by cases b <;> decide
theorem negV_lin {x:Lin} (g:Good x) (b:Bool):linTimes x (negV b)=negB b x:=by
 rw [linTimes_eq g.nf]
 unfold negV negB
 cases b
 ·exact linT_one g
 ·rfl
theorem SL.vwT' {h:Hp} {b:Nat} {e:TypeId} {p:Option Addr} {l c:Nat} {us:Tms} (s:SL h b e 2 p l c (us.map encT)):∀ i,i∈blkOf p→i<h.size:=fun i hi=>(s.blk hi).2
theorem isS_kind {t:Tok} {c:UInt8} (h:isS t c=true):t.kind=3:=by
 unfold isS at h
 simp only [Bool.and_eq_true,beq_iff_eq] at h
 exact h.1
theorem wrap_small {d:Int} (h:-1000≤d) (k:d≤1000):IntKind.wrap .i64 d=d:=wrap_i64 (by omega) (by omega)
theorem fac_hc {A a3 a4 a5 a6 : Nat} {o : Option (List Tok → PRes)} {d : Nat} (hd : d ≤ 32)
    (ho : match o with
      | none => d = 32
      | some f => d < 32 ∧ ∀ h ts, Cl h A a3 a4 a5 a6 → PB h A ts (d + 1 : Nat) 0 → Wf ts → ts.length ≤ 2 ^ 40 → HC Tryz.prog 90 #[ptr a6, ptr a3] h (ResP h A ts.length (d + 1 : Nat) (f ts)))
    (hfine : ∀ f, o = some f → ∀ ts, Wf ts → Fine ts (f ts))
    {h : Hp} {ts : List Tok} (cl : Cl h A a3 a4 a5 a6) (pb : PB h A ts d 0) (w : Wf ts) (hts : ts.length ≤ 2 ^ 40) :
    HC Tryz.prog 84 #[ptr a3, ptr a4] h (ResP h A ts.length d (facG o ts)) := by
  refine hcr_of (args := [ptr a3, ptr a4]) mixed Tryz.func84 (by kernel_rfl) (t_expr_Parse_1_factor_eq ⟨a3, 0, none⟩ ⟨a4, 0, none⟩) ?_
  unfold t_expr_Parse_1_factor
  have hA := pb.lt
  have hcl := cl.lt
  refine newB ?_
  intro h1 b1 e1 z1
  refine loop_of (cs := [(false, [.int .u32])]) (fun y m h' => ∃ (b : Bool) (us : List Tok), y.1 = ((negV b : Nat) : Int) ∧ facG o ts = facN o b us ∧ Ch [A] h1 h' ∧ PB h' A us d 0 ∧ us <:+ ts ∧ m = us.length) ((1 : Int), ()) ts.length rfl
    ⟨false, ts, rfl, rfl, Ch.refl _ _, pb.keep e1 (by simp), List.suffix_refl _, rfl⟩ ?_
  rintro ⟨n2, ⟨⟩⟩ m h2 ⟨b, us, hn, hg, k2, pb2, hsuf, rfl⟩
  simp only at hn
  subst hn
  dsimp only [flat, unc, unc1, nA, cA]
  have hz2 := k2.size
  have cl1 := cl.keep e1 (by simp)
  have cl2 := cl1.keep k2 (by simp)
  have b12 := b1.keep k2 (by simp; omega)
  have k02 : Ch [A] h h2 := Ch.trans (e1.mono (by simp)) k2 (fun j hj _ => hj)
  have hus := hsuf.length_le
  have wus := w.suffix hsuf
  refine loads_box cl2.b3 (some ⟨A, 0, none⟩, ()) rfl ?_
  dsimp only [flat, unc, unc1, nA, cA]
  refine call_of (sign79_hc pb2 45) ?_
  rintro _ h3 ⟨rfl, k3, z3, pb3⟩
  refine ⟨(signB 0 us 45, ()), rfl, ?_⟩
  dsimp only [flat, unc, unc1, nA, cA]
  have k03 : Ch [A] h h3 := Ch.trans k02 k3 (fun j hj _ => hj)
  have cl3 := cl2.keep k3 (by simp)
  have b13 := b12.keep k3 (by simp; omega)
  refine cond_mk (fun g1 => ?_) (fun g1 => ?_)
  · rw [if_pos g1] at pb3
    cases us with
    | nil => cases g1
    | cons t r =>
      have g1 : isS t 45 = true := g1
      refine again_mk (cs := [(false, [.int .u32])]) (((negV (!b) : Nat) : Int), ()) r.length rfl (by simp) (congrArg (fun z => [Value.int .u32 z]) (negV_wrap b)) ⟨!b, r, rfl, ?_, Ch.trans k2 k3 (fun j hj _ => hj), pb3, (List.suffix_cons _ _).trans hsuf, rfl⟩
      rw [hg]
      show (if isS t 45 = true then facN o (!b) r else facS o b (t :: r)) = _
      rw [if_pos g1]
  · rw [if_neg (by rw [g1]; simp)] at pb3
    have hfs : facG o ts = facS o b us := by
      rw [hg]
      cases us with
      | nil => rfl
      | cons t r =>
        have g1 : isS t 45 = false := g1
        show (if isS t 45 = true then facN o (!b) r else facS o b (t :: r)) = _
        rw [if_neg (by rw [g1]; simp)]
    refine join_of (cs := [(false, [.bool])]) (fun y h' => y.1 = decide (us = []) ∧ h3 = h') ?_ ?_
    · refine loads_box cl3.b3 (some ⟨A, 0, none⟩, ()) rfl ?_
      dsimp only [flat, unc, unc1, nA, cA]
      obtain ⟨p, l, c, bA, v, hp⟩ := pb3
      refine osome_mk rfl ?_
      try rw [add_box]
      refine loads_box bA ((0 : Int), ()) rfl ?_
      dsimp only [flat, unc, unc1, nA, cA]
      refine cond_f rfl ?_
      refine loads_box cl3.b3 (some ⟨A, 0, none⟩, ()) rfl ?_
      dsimp only [flat, unc, unc1, nA, cA]
      refine osome_mk rfl ?_
      refine loads_box bA ((p, l, c), ()) rfl ?_
      dsimp only [flat, unc, unc1, nA, cA]
      refine meet_mk (cs := [(false, [.bool])]) (((l : Int) == 0), ()) rfl rfl ⟨?_, rfl⟩
      have := v.len
      cases us with
      | nil => simp only [List.length_nil] at this; subst this; rfl
      | cons t r =>
        simp only [List.length_cons] at this
        rw [decide_eq_false (by simp)]
        show ((l : Int) == 0) = false
        exact beq_eq_false_iff_ne.2 (by omega)
    · rintro ⟨b5, ⟨⟩⟩ h3' ⟨hb5, rfl⟩
      simp only at hb5
      subst hb5
      dsimp only [flat, unc, unc1, nA, cA]
      refine cond_mk (fun g2 => ?_) (fun g2 => ?_)
      · have g2 : us = [] := of_decide_eq_true g2
        subst g2
        refine loads_box cl3.b3 (some ⟨A, 0, none⟩, ()) rfl ?_
        dsimp only [flat, unc, unc1, nA, cA]
        refine call_of (refuse80_hc pb3 20) ?_
        rintro _ h4 ⟨rfl, k4, z4, pb4⟩
        refine ⟨(), rfl, ?_⟩
        dsimp only [flat, unc, unc1, nA, cA]
        refine stores_of (b13.keep k4 (by simp; omega)) rfl (by simp) ?_
        intro h5 b5 k5 z5
        have b5 : Box h5 h.size 26 [.slice none 0 0, .int .u32 0] := b5
        refine loads_box b5 ((none, 0, 0), (0 : Int), ()) rfl ?_
        rw [hfs]
        exact ⟨Ch.trans (Ch.trans k03 k4 (fun j hj _ => hj)) k5 (fun j hj hl => by simp at hj; omega), linZ, none, 0, 0, [], d, 20, rfl, SL.nil _ _ _ _, Good.z, pb4.keep k5 (by simp; omega), rfl, by simp, by simp [linZ]⟩
      · have g2 : us ≠ [] := of_decide_eq_false g2
        obtain ⟨t, r, rfl⟩ := List.exists_cons_of_ne_nil g2
        have wt := wus t (List.mem_cons_self ..)
        simp only [List.length_cons] at hus
        refine loads_box cl3.b3 (some ⟨A, 0, none⟩, ()) rfl ?_
        dsimp only [flat, unc, unc1, nA, cA]
        obtain ⟨p, l, c, bA, v, hp⟩ := pb3
        have hlen := v.len
        have hcap := v.cap
        simp only [List.length_cons] at hlen
        obtain ⟨a, rfl, hc⟩ := v.cells 0 (by simp)
        obtain ⟨c1, c2, c3⟩ := tok_cells (t := t) hc
        refine osome_mk rfl (loads_box bA ((some a, l, c), ()) rfl ?_)
        dsimp only [flat, unc, unc1, nA, cA]
        refine need_of ⟨by omega, by omega⟩ (osome_mk rfl (loads_of ((t.kind : Int), t.text, (t.num : Int), (t.at_ : Int), ()) c3 ?_))
        dsimp only [flat, unc, unc1, nA, cA]
        refine newB ?_
        intro h4 b4 e4 z4
        refine stores_of b4 rfl (by simp) ?_
        intro h5 b5 k5 z5
        have b5 : Box h5 h3.size 57 (enc t) := b5
        have hz3 := k03.size
        have k35 : Ext h3 h5 := Ch.trans e4 k5 (fun j hj hl => by simp at hj; omega)
        try rw [add_box]
        refine loads_box b5 (t.text, ()) rfl ?_
        dsimp only [flat, unc, unc1, nA, cA]
        refine call_ibb (register_hc t.text h5) ?_
        refine newB ?_
        intro h6 b6 e6 z6
        have k36 := k35.trans e6
        have k06 : Ch [A] h h6 := Ch.trans k03 k36 (by simp)
        have cl6 := cl3.keep k36 (by simp)
        have b16 := b13.keep k36 (by simp)
        have bt6 := b5.keep e6 (by simp)
        have pb6 : PB h6 A (t :: r) d 0 := PB.keep ⟨some a, l, c, bA, v, hp⟩ k36 (by simp)
        have hh1 : h.size < h3.size := by omega
        have hh6 : h5.size < h6.size := by omega
        refine join_of (cs := []) (fun y h' => FacJ h A h.size h5.size ts.length d (facH o (t :: r)) h') ?_ ?_
        · refine join_of (cs := [(false, [.bool])]) (fun y h' => y.1 = (decide (t.kind = 1) && (regL t.text.data.toList).2.2) ∧ h6 = h') ?_ ?_
          · refine loads_box bt6 ((t.kind : Int), ()) rfl ?_
            dsimp only [flat, unc, unc1, nA, cA]
            refine cond_mk (fun g3 => ?_) (fun g3 => ?_)
            · have g3 : (t.kind : Int) = 1 := by simpa using g3
              refine meet_mk (cs := [(false, [.bool])]) ((regL t.text.data.toList).2.2, ()) rfl rfl ⟨?_, rfl⟩
              rw [decide_eq_true (by omega)]
              rfl
            · have g3 : ¬ (t.kind : Int) = 1 := by simpa using g3
              refine meet_mk (cs := [(false, [.bool])]) (false, ()) rfl rfl ⟨?_, rfl⟩
              rw [decide_eq_false (by omega)]
              rfl
          · rintro ⟨b7, ⟨⟩⟩ h6' ⟨hb7, rfl⟩
            simp only at hb7
            subst hb7
            dsimp only [flat, unc, unc1, nA, cA]
            have refuse : ∀ (e : Nat), facH o (t :: r) = .error e → e ≠ 0 → ∀ (hx : Hp) (ts' : List Tok) (d' : Int) (e0 : Nat) (x : Lin) (p' : Option Addr) (l' c' : Nat) (kk : Nat), Ch [A] h hx → Cl hx A a3 a4 a5 a6 → Box hx h.size 26 [.slice none 0 0, .int .u32 0] →
                Box hx h5.size 26 [.slice p' l' c', .int .u32 (x.num : Int)] → SL hx h.size 50 2 p' l' c' (x.terms.map encT) → Good x → x.terms.length ≤ ts.length → PB hx A ts' d' e0 → (if e0 = 0 then kk else e0) = e → ∀ (L : Lp) (K : Value → Hp → Prop), L[1]? = some (fun vs h' => ∃ y : HVs (flat []), vs = parts [] (hvs _ y) ∧ FacJ h A h.size h5.size ts.length d (facH o (t :: r)) h') →
                (T.loads ⟨a3, 0, none⟩ [.pointer 160] fun (p23 : Option Addr) => T.call Tryz.prog 86 [.pointer p23, .int .i64 (kk : Int)] true [] (T.again 1 [])) L K hx := by
              intro e he he0 hx ts' d' e0 x p' l' c' kk kx clx b1x b21x sx gx lx pbx hkk L K hL
              refine loads_box clx.b3 (some ⟨A, 0, none⟩, ()) rfl ?_
              dsimp only [flat, unc, unc1, nA, cA]
              refine call_of (refuse80_hc pbx kk) ?_
              rintro _ h7 ⟨rfl, k7, z7, pb7⟩
              refine ⟨(), rfl, ?_⟩
              dsimp only [flat, unc, unc1, nA, cA]
              refine meet_mk (cs := []) () hL rfl ⟨Ch.trans kx k7 (fun j hj _ => hj), b1x.keep k7 (by simp; omega), x, p', l', c', ts', d', _, b21x.keep k7 (by simp; omega), sx.keep' k7 (fun j hj => by have := (sx.blk hj).1; simp; omega), gx, pb7, ?_⟩
              rw [he]
              exact ⟨hkk, he0, lx⟩
            have next : ∀ (x : Lin), facH o (t :: r) = .ok (x, r) → Good x → ∀ (hx : Hp) (p' : Option Addr) (l' c' : Nat), Ch [A] h hx → Cl hx A a3 a4 a5 a6 → Box hx h.size 26 [.slice none 0 0, .int .u32 0] → Box hx h5.size 26 [.slice p' l' c', .int .u32 (x.num : Int)] →
                SL hx h.size 50 2 p' l' c' (x.terms.map encT) → PB hx A (t :: r) d 0 → ∀ (L : Lp) (K : Value → Hp → Prop), L[1]? = some (fun vs h' => ∃ y : HVs (flat []), vs = parts [] (hvs _ y) ∧ FacJ h A h.size h5.size ts.length d (facH o (t :: r)) h') →
                (T.loads ⟨a3, 0, none⟩ [.pointer 160] fun (p31 : Option Addr) => T.loads ⟨a3, 0, none⟩ [.pointer 160] fun (p32 : Option Addr) => T.osome p32 fun (a33 : Addr) => T.loads a33 [.slice 57] fun (p34 : Option Addr) (l35 : Nat) (l36 : Nat) =>
                  T.need (((0 : Int) ≤ (1 : Int)) ∧ (((1 : Int) ≤ (l35 : Int)) ∧ ((l35 : Int) ≤ (l36 : Int)))) <| T.osome p31 fun (a37 : Addr) => T.stores a37 [.slice (if (l36 = 1) then p34 else (Option.map (fun a => Addr.add a 4) p34)) ((Int.toNat (l35 : Int)) - 1) (l36 - 1)] <| T.again 1 []) L K hx := by
              intro x he gx hx p' l' c' kx clx b1x b21x sx pbx L K hL
              obtain ⟨q, m, cq, bQ, vq, hq⟩ := pbx
              have hm := vq.len
              have hmc := vq.cap
              simp only [List.length_cons] at hm
              refine loads_box clx.b3 (some ⟨A, 0, none⟩, ()) rfl ?_
              dsimp only [flat, unc, unc1, nA, cA]
              refine loads_box clx.b3 (some ⟨A, 0, none⟩, ()) rfl ?_
              dsimp only [flat, unc, unc1, nA, cA]
              refine osome_mk rfl (loads_box bQ ((q, m, cq), ()) rfl ?_)
              dsimp only [flat, unc, unc1, nA, cA]
              refine need_of ⟨by omega, by omega, by omega⟩ (osome_mk rfl ?_)
              refine stores_of bQ rfl (by simp) ?_
              intro h7 b7 k7 z7
              refine meet_mk (cs := []) () hL rfl ⟨Ch.trans kx k7 (fun j hj _ => hj), b1x.keep k7 (by simp; omega), x, p', l', c', r, d, 0, b21x.keep k7 (by simp; omega), sx.keep' k7 (fun j hj => by have := (sx.blk hj).1; simp; omega), gx, ?_, ?_⟩
              · refine ⟨_, _, _, b7, ((vq.drop (k := 1) (by omega)).keep k7 ?_), ?_⟩
                · intro i hi hm
                  rw [blkOf_if] at hi
                  rw [List.mem_singleton] at hm
                  have := hq _ hi
                  omega
                · intro i hi
                  exact hq _ (by have := blkOf_if q cq 1 4; rw [← this]; exact hi)
              · rw [he]
                exact ⟨rfl, rfl, rfl, rfl⟩
            have fH : ∀ q, (if t.kind = 1 then if (regL t.text.data.toList).2.2 = true then (.error 20 : PRes) else .ok (⟨[(t.text, 1)], 0⟩, r)
                else if t.kind = 2 then .ok (⟨[], t.num⟩, r)
                else if isS t 40 = true then match o with
                  | none => .error 21
                  | some f => match f r with
                    | .error e => .error e
                    | .ok (x, r') => match r' with
                      | [] => .error 20
                      | t' :: r'' => if isS t' 41 = true then .ok (x, r'') else .error 20
                else .error 20) = q → facH o (t :: r) = q := fun q hq => hq
            refine cond_mk (fun g3 => ?_) (fun g3 => ?_)
            · simp only [Bool.and_eq_true, decide_eq_true_eq] at g3
              exact refuse 20 (fH _ (by rw [if_pos g3.1, if_pos g3.2])) (by omega) h6 (t :: r) d 0 linZ none 0 0 20 k06 cl6 b16 b6 (SL.nil _ _ _ _) Good.z (by simp [linZ]) pb6 rfl _ _ rfl
            · simp only [Bool.and_eq_false_iff, decide_eq_false_iff_not] at g3
              refine loads_box bt6 ((t.kind : Int), ()) rfl ?_
              dsimp only [flat, unc, unc1, nA, cA]
              refine cond_mk (fun g4 => ?_) (fun g4 => ?_)
              · have g4 : t.kind = 1 := by have : (t.kind : Int) = 1 := by simpa using g4
                                           omega
                have g5 : (regL t.text.data.toList).2.2 = false := by
                  rcases g3 with g3 | g3
                  · exact absurd g4 g3
                  · exact g3
                obtain ⟨hn0, hlg⟩ := wt.name g4
                rw [g5] at hlg
                try rw [add_box]
                refine loads_box bt6 (t.text, ()) rfl ?_
                dsimp only [flat, unc, unc1, nA, cA]
                refine call_of (named_hc t.text h6) ?_
                rintro _ h7 ⟨e7, p', l', c', rfl, s7⟩
                refine ⟨((p', l', c'), (0 : Int), ()), rfl, ?_⟩
                dsimp only [flat, unc, unc1, nA, cA]
                refine stores_of (b6.keep e7 (by simp)) rfl (by simp) ?_
                intro h8 b8 k8 z8
                have b8 : Box h8 h5.size 26 [.slice p' l' c', .int .u32 0] := b8
                try rw [add_box]
                refine loads_box b8 ((0 : Int), ()) rfl ?_
                dsimp only [flat, unc, unc1, nA, cA]
                try rw [add_box]
                refine loads_box ((bt6.keep e7 (by simp)).keep k8 (by simp; omega)) ((t.num : Int), ()) rfl ?_
                dsimp only [flat, unc, unc1, nA, cA]
                refine stores_of b8 rfl (by simp) ?_
                intro h9 b9 k9 z9
                have b9 : Box h9 h5.size 26 [.slice p' l' c', .int .u32 (IntKind.wrap .u32 (0 + (t.num : Int)))] := b9
                rw [hn0] at b9
                have k69 : Ch [h5.size] h6 h9 := Ch.trans (Ch.trans (e7.mono (by simp)) k8 (fun j hj _ => hj)) k9 (fun j hj _ => hj)
                have k79 : Ch [h5.size] h7 h9 := Ch.trans k8 k9 (fun j hj _ => hj)
                refine next ⟨[(t.text, 1)], 0⟩ (fH _ (by rw [if_pos g4, if_neg (by rw [g5]; simp)])) (good_named hlg) h9 p' l' c' (Ch.trans k06 k69 (fun j hj hl => by simp at hj; omega)) (cl6.keepA k69 (by simp; omega)) (b16.keep k69 (by simp; omega)) b9 ?_ (pb6.keep k69 (by simp; omega)) _ _ rfl
                exact (s7.keep' k79 (fun j hj => by have := (s7.blk hj).1; simp; omega)).mono (by omega)
              · have g4 : ¬ t.kind = 1 := by have : ¬ (t.kind : Int) = 1 := by simpa using g4
                                             omega
                refine loads_box bt6 ((t.kind : Int), ()) rfl ?_
                dsimp only [flat, unc, unc1, nA, cA]
                refine cond_mk (fun g5 => ?_) (fun g5 => ?_)
                · have g5 : t.kind = 2 := by have : (t.kind : Int) = 2 := by simpa using g5
                                             omega
                  try rw [add_box]
                  refine loads_box b6 ((0 : Int), ()) rfl ?_
                  dsimp only [flat, unc, unc1, nA, cA]
                  try rw [add_box]
                  refine loads_box bt6 ((t.num : Int), ()) rfl ?_
                  dsimp only [flat, unc, unc1, nA, cA]
                  refine stores_of b6 rfl (by simp) ?_
                  intro h9 b9 k9 z9
                  have b9 : Box h9 h5.size 26 [.slice none 0 0, .int .u32 (IntKind.wrap .u32 (0 + (t.num : Int)))] := b9
                  rw [Int.zero_add, wrap_u32 (by omega) (by have := wt.num; omega)] at b9
                  exact next ⟨[], t.num⟩ (fH _ (by rw [if_neg g4, if_pos g5])) ⟨Nf.nil, by simp, wt.num⟩ h9 none 0 0 (Ch.trans k06 k9 (fun j hj hl => by simp at hj; omega)) (cl6.keepA k9 (by simp; omega)) (b16.keep k9 (by simp; omega)) b9 (SL.nil _ _ _ _) (pb6.keep k9 (by simp; omega)) _ _ rfl
                · have g5 : ¬ t.kind = 2 := by have : ¬ (t.kind : Int) = 2 := by simpa using g5
                                               omega
                  refine loads_box cl6.b3 (some ⟨A, 0, none⟩, ()) rfl ?_
                  dsimp only [flat, unc, unc1, nA, cA]
                  refine call_of (sign79_hc pb6 40) ?_
                  rintro _ h7 ⟨rfl, k7, z7, pb7⟩
                  refine ⟨(signB 0 (t :: r) 40, ()), rfl, ?_⟩
                  dsimp only [flat, unc, unc1, nA, cA]
                  have k07 : Ch [A] h h7 := Ch.trans k06 k7 (fun j hj _ => hj)
                  have cl7 := cl6.keep k7 (by simp)
                  have b17 := b16.keep k7 (by simp; omega)
                  have b217 := b6.keep k7 (by simp; omega)
                  refine cond_mk (fun g6 => ?_) (fun g6 => ?_)
                  · rw [if_pos g6] at pb7
                    have g6 : isS t 40 = true := g6
                    have pb7 : PB h7 A r d 0 := pb7
                    obtain ⟨q, m, cq, bQ, vq, hq⟩ := pb7
                    refine loads_box cl7.b3 (some ⟨A, 0, none⟩, ()) rfl ?_
                    dsimp only [flat, unc, unc1, nA, cA]
                    refine osome_mk rfl ?_
                    try rw [add_box]
                    refine loads_box bQ ((d : Int), ()) rfl ?_
                    dsimp only [flat, unc, unc1, nA, cA]
                    refine osome_mk rfl ?_
                    try rw [add_box]
                    refine stores_of bQ rfl (by simp) ?_
                    intro h8 b8 k8 z8
                    have b8 : Box h8 A 160 [.slice q m cq, .int .i64 (IntKind.wrap .i64 ((d : Int) + 1)), .int .i64 (0 : Int)] := b8
                    rw [wrap_small (by omega) (by omega)] at b8
                    have cl8 := cl7.keep k8 (by simp)
                    have b18 := b17.keep k8 (by simp; omega)
                    have b218 := b217.keep k8 (by simp; omega)
                    have k08 : Ch [A] h h8 := Ch.trans k07 k8 (fun j hj _ => hj)
                    have pb8 : PB h8 A r (d + 1 : Nat) 0 := ⟨q, m, cq, b8, vq.keep k8 (fun i hi hm => by rw [List.mem_singleton] at hm; have := hq _ hi; omega), hq⟩
                    refine loads_box cl8.b3 (some ⟨A, 0, none⟩, ()) rfl ?_
                    dsimp only [flat, unc, unc1, nA, cA]
                    refine osome_mk rfl ?_
                    try rw [add_box]
                    refine loads_box b8 (((d : Int) + 1), ()) rfl ?_
                    dsimp only [flat, unc, unc1, nA, cA]
                    refine cond_mk (fun g7 => ?_) (fun g7 => ?_)
                    · have g7 := of_decide_eq_true g7
                      cases o with
                      | some f => simp only at ho; omega
                      | none =>
                        exact refuse 21 (fH _ (by rw [if_neg g4, if_neg g5, if_pos g6])) (by omega) h8 r (d + 1 : Nat) 0 linZ none 0 0 21 k08 cl8 b18 b218 (SL.nil _ _ _ _) Good.z (by simp [linZ]) pb8 rfl _ _ rfl
                    · have g7 := of_decide_eq_false g7
                      cases o with
                      | none => simp only at ho; omega
                      | some f =>
                        simp only at ho
                        obtain ⟨hd', hs⟩ := ho
                        refine loads_box cl8.b4 (.func (.func 90) #[] #[ptr a6, ptr a3], ()) rfl ?_
                        dsimp only [flat, unc, unc1, nA, cA]
                        have wr : Wf r := wus.tail
                        have hff := hfine f rfl r wr
                        have hrl : r.length + 1 ≤ ts.length := hus
                        refine callv_of (cap := [ptr a6, ptr a3]) hb29 rfl (hs h8 r cl8 pb8 wr (by omega)) ?_
                        rintro _ h9 ⟨k9, x, p', l', c', ts', d', e', rfl, s9, gx, pb9, post⟩
                        refine ⟨((p', l', c'), (x.num : Int), ()), rfl, ?_⟩
                        dsimp only [flat, unc, unc1, nA, cA]
                        have cl9 := cl8.keep k9 (by simp)
                        have b19 := b18.keep k9 (by simp; omega)
                        have hz8 := k08.size
                        have hb218 := b218.lt
                        refine stores_of (b218.keep k9 (by simp; omega)) rfl (by simp) ?_
                        intro h10 b10 k10 z10
                        have b10 : Box h10 h5.size 26 [.slice p' l' c', .int .u32 (x.num : Int)] := b10
                        have cl10 := cl9.keepA k10 (by simp; omega)
                        have b110 := b19.keep k10 (by simp; omega)
                        have pb10 := pb9.keep k10 (by simp; omega)
                        have s10 : SL h10 h.size 50 2 p' l' c' (x.terms.map encT) := (s9.keep' k10 (fun j hj => by have := (s9.blk hj).1; simp; omega)).mono hz8
                        have k010 : Ch [A] h h10 := Ch.trans (Ch.trans k08 k9 (fun j hj _ => hj)) k10 (fun j hj hl => by simp at hj; omega)
                        refine loads_box cl10.b3 (some ⟨A, 0, none⟩, ()) rfl ?_
                        dsimp only [flat, unc, unc1, nA, cA]
                        obtain ⟨q2, m2, cq2, bQ2, vq2, hq2⟩ := pb10
                        refine osome_mk rfl ?_
                        try rw [add_box]
                        refine loads_box bQ2 (d', ()) rfl ?_
                        dsimp only [flat, unc, unc1, nA, cA]
                        refine osome_mk rfl ?_
                        try rw [add_box]
                        refine stores_of bQ2 rfl (by simp) ?_
                        intro h11 b11 k11 z11
                        have b11 : Box h11 A 160 [.slice q2 m2 cq2, .int .i64 (IntKind.wrap .i64 (d' - 1)), .int .i64 (e' : Int)] := b11
                        have pb11 : PB h11 A ts' (IntKind.wrap .i64 (d' - 1)) e' := ⟨q2, m2, cq2, b11, vq2.keep k11 (fun i hi hm => by rw [List.mem_singleton] at hm; have := hq2 _ hi; omega), hq2⟩
                        have cl11 := cl10.keep k11 (by simp)
                        refine loads_box cl11.b3 (some ⟨A, 0, none⟩, ()) rfl ?_
                        dsimp only [flat, unc, unc1, nA, cA]
                        refine call_of (sign79_hc pb11 41) ?_
                        rintro _ h12 ⟨rfl, k12, z12, pb12⟩
                        refine ⟨(signB e' ts' 41, ()), rfl, ?_⟩
                        dsimp only [flat, unc, unc1, nA, cA]
                        have k1012 : Ch [A] h10 h12 := Ch.trans k11 k12 (fun j hj _ => hj)
                        have k012 : Ch [A] h h12 := Ch.trans k010 k1012 (fun j hj _ => hj)
                        have cl12 := cl11.keep k12 (by simp)
                        have b112 := b110.keep k1012 (by simp; omega)
                        have b12' := b10.keep k1012 (by simp; omega)
                        have s12 := s10.keep' k1012 (fun j hj => by have := (s10.blk hj).1; simp; omega)
                        refine cond_mk (fun g8 => ?_) (fun g8 => ?_)
                        · have g8 : signB e' ts' 41 = false := by simpa using g8
                          rw [if_neg (by rw [g8]; simp)] at pb12
                          revert post hff
                          cases hfr : f r with
                          | error e =>
                            rintro hff ⟨rfl, he0, hxl⟩
                            exact refuse e' (fH _ (by rw [if_neg g4, if_neg g5, if_pos g6]; simp only [hfr])) he0 h12 ts' _ e' x p' l' c' 20 k012 cl12 b112 b12' s12 gx (by omega) pb12 (by rw [if_neg he0]) _ _ rfl
                          | ok z =>
                            obtain ⟨y, r'⟩ := z
                            rintro ⟨_, _, _, hxl⟩ ⟨rfl, rfl, rfl, rfl⟩
                            refine refuse 20 (fH _ ?_) (by omega) h12 ts' _ 0 x p' l' c' 20 k012 cl12 b112 b12' s12 gx (by omega) pb12 rfl _ _ rfl
                            rw [if_neg g4, if_neg g5, if_pos g6]
                            simp only [hfr]
                            cases ts' with
                            | nil => rfl
                            | cons t' r'' =>
                              have g8 : isS t' 41 = false := g8
                              simp only
                              rw [if_neg (by rw [g8]; simp)]
                        · have g8 : signB e' ts' 41 = true := by simpa using g8
                          rw [if_pos g8] at pb12
                          have he0 : e' = 0 := by
                            unfold signB at g8
                            simp only [Bool.and_eq_true, decide_eq_true_eq] at g8
                            exact g8.1
                          revert post hff
                          cases hfr : f r with
                          | error e =>
                            rintro hff ⟨rfl, he, hxl⟩
                            exact absurd he0 he
                          | ok z =>
                            obtain ⟨y, r'⟩ := z
                            rintro ⟨_, _, _, hxl⟩ ⟨_, rfl, rfl, rfl⟩
                            subst he0
                            cases ts' with
                            | nil => cases g8
                            | cons t' r'' =>
                              have g8 : isS t' 41 = true := g8
                              refine meet_mk (cs := []) () rfl rfl ⟨k012, b112, x, p', l', c', r'', _, 0, b12', s12, gx, pb12, ?_⟩
                              rw [fH (.ok (x, r'')) (by rw [if_neg g4, if_neg g5, if_pos g6]; simp only [hfr]; rw [if_pos g8])]
                              refine ⟨rfl, rfl, rfl, ?_⟩
                              rw [wrap_small (by omega) (by omega)]
                              omega
                  · rw [if_neg (by rw [g6]; simp)] at pb7
                    have g6 : isS t 40 = false := g6
                    exact refuse 20 (fH _ (by rw [if_neg g4, if_neg g5, if_neg (by rw [g6]; simp)])) (by omega) h7 (t :: r) d 0 linZ none 0 0 20 k07 cl7 b17 b217 (SL.nil _ _ _ _) Good.z (by simp [linZ]) pb7 rfl _ _ rfl
        · rintro ⟨⟩ h7 ⟨k7, b17, x, p', l', c', ts', d', e', b217, s7, gx, pb7, post⟩
          dsimp only [flat, unc, unc1, nA, cA]
          have hxl : x.terms.length ≤ ts.length := by
            have hf := facH_fine hfine wus
            revert post hf
            cases facH o (t :: r) with
            | error e => exact fun hp hf => hp.2.2
            | ok q =>
              obtain ⟨y, r'⟩ := q
              rintro ⟨_, rfl, _, _⟩ ⟨_, _, _, hl⟩
              simp only [List.length_cons] at hl
              omega
          refine loads_box b217 ((p', l', c'), (x.num : Int), ()) rfl ?_
          dsimp only [flat, unc, unc1, nA, cA]
          refine call_of (times_hc s7.vwT (by omega) gx.size (negV b)) ?_
          rintro _ h8 ⟨e8, q, m, cq, rfl, s8⟩
          refine ⟨((q, m, cq), ((linTimes x (negV b)).num : Int), ()), rfl, ?_⟩
          dsimp only [flat, unc, unc1, nA, cA]
          refine stores_of (b17.keep e8 (by simp)) rfl (by simp) ?_
          intro h9 b9 k9 z9
          have b9 : Box h9 h.size 26 [.slice q m cq, .int .u32 ((linTimes x (negV b)).num : Int)] := b9
          refine loads_box b9 ((q, m, cq), ((linTimes x (negV b)).num : Int), ()) rfl ?_
          have hz7 := k7.size
          refine ⟨Ch.trans (Ch.trans k7 e8 (by simp)) k9 (fun j hj hl => by simp at hj; omega), linTimes x (negV b), q, m, cq, ts', d', e', rfl, ?_, ?_, ?_, ?_⟩
          · exact (s8.keep' k9 (fun j hj => by have := (s8.blk hj).1; have := b17.lt; simp; omega)).mono hz7
          · rw [negV_lin gx]; exact gx.neg b
          · exact (pb7.keep e8 (by simp)).keep k9 (by simp; omega)
          · rw [hfs, negV_lin gx]
            unfold facS
            revert post
            cases facH o (t :: r) with
            | error e => exact fun ⟨p1, p2, p3⟩ => ⟨p1, p2, Nat.le_trans (negB_length b x) p3⟩
            | ok q =>
              obtain ⟨y, r'⟩ := q
              rintro ⟨p1, rfl, p3, p4⟩
              exact ⟨p1, rfl, p3, p4⟩
def LoopS (h:Hp) (A A1 A7:Nat) (d:Int) (ts:List Tok) (q:PRes) (rest:Nat→Lin→List Tok→PRes) (m:Nat) (h':Hp):Prop :=
 Ch [A] h h'∧Box h' A1 26 [.slice none 0 0,.int .u32 0]∧∃ x p l c ts' d' e',Box h' A7 26 [.slice p l c,.int .u32 (x.num:Int)]∧SL h' (A1+1) 50 2 p l c (x.terms.map encT)∧Good x∧PB h' A ts' d' e' ∧
  ((e'=0∧d'=d∧∃ n,q=rest n x ts'∧ts'.length≤n∧ts' <:+ ts∧x.terms.length+ts'.length≤ts.length∧m=n+1)∨(e'≠0∧q=.error e'∧x.terms.length≤ts.length∧m=0))
theorem partL_stop {fac:List Tok→PRes} {n:Nat} {x:Lin} {ts:List Tok} (h:signB 0 ts 42=false):partL fac n x ts=.ok (x,ts):=by
 cases n with
 | zero=>rfl
 | succ n =>
  cases ts with
  | nil=>rfl
  | cons t r =>
   have h:isS t 42=false:=h
   unfold partL
   simp only
   rw [if_neg (by rw [h]; simp)]
def FacC (P:Program) (f:FuncId) (cap:List Value) (A a3 a4 a5 a6 d:Nat) (g:List Tok→PRes):Prop :=
 ∀ h ts,Cl h A a3 a4 a5 a6→PB h A ts d 0→Wf ts→ts.length≤2^40→HC P f cap.toArray h (ResP h A ts.length d (g ts))
theorem hb78:hasBody Tryz.prog 84=true:=by kernel_rfl
theorem hb81:hasBody Tryz.prog 89=true:=by kernel_rfl
theorem part_hc {A a3 a4 a5 a6 d:Nat} {fac:List Tok→PRes} (hfac:FacC Tryz.prog 84 [ptr a3,ptr a4] A a3 a4 a5 a6 d fac) (hfine:∀ ts,Wf ts→Fine ts (fac ts)) :
  FacC Tryz.prog 89 [ptr a5,ptr a3] A a3 a4 a5 a6 d (partG fac):=by
 intro h ts cl pb w hts
 refine hcr_of (args:=[ptr a5,ptr a3]) mixed Tryz.func89 (by kernel_rfl) (t_expr_Parse_2_part_eq ⟨a5,0,none⟩ ⟨a3,0,none⟩) ?_
 unfold t_expr_Parse_2_part
 have hA:=pb.lt
 have hcl:=cl.lt
 refine newB ?_
 intro h1 b1 e1 z1
 have cl1:=cl.keep e1 (by simp)
 refine loads_box cl1.b5 (.func (.func 84) #[] #[ptr a3,ptr a4],()) rfl ?_
 dsimp only [flat,unc,unc1,nA,cA]
 refine callv_of (cap:=[ptr a3,ptr a4]) hb78 rfl (hfac h1 ts cl1 (pb.keep e1 (by simp)) w hts) ?_
 rintro _ h2 ⟨k2,x,p,l,c,ts',d',e',rfl,s2,gx,pb2,post⟩
 refine ⟨((p,l,c),(x.num:Int),()),rfl,?_⟩
 dsimp only [flat,unc,unc1,nA,cA]
 refine newB ?_
 intro h3 b3 e3 z3
 refine stores_of b3 rfl (by simp) ?_
 intro h4 b4 k4 z4
 have b4:Box h4 h2.size 26 [.slice p l c,.int .u32 (x.num:Int)]:=b4
 have hz2:=k2.size
 have e24:Ext h2 h4:=Ch.trans e3 k4 (fun j hj hl=>by simp at hj; omega)
 have k04:Ch [A] h h4:=Ch.trans (Ch.trans (e1.mono (by simp)) k2 (fun j hj _=>hj)) e24 (by simp)
 have b14:=(b1.keep k2 (by simp; omega)).keep e24 (by simp)
 have hrest:∀ h',Ch [A] h h'→Cl h' A a3 a4 a5 a6:=fun h' k=>cl.keep k (by simp)
 have hmid:∀ e0,e0∈[(0:Nat)]→True:=fun _ _=>trivial
 have start:∃ m,LoopS h A h.size h2.size d ts (partG fac ts) (partL fac) m h4:=by
  have hf:=hfine ts w
  revert post hf
  unfold partG
  cases hfr:fac ts with
  | error e =>
   rintro ⟨he,he0,hxl⟩ _
   exact ⟨0,k04,b14,x,p,l,c,ts',d',e',b4,(s2.keep' e24 (by simp)).mono (by omega),gx,pb2.keep e24 (by simp),.inr ⟨by omega,by rw [he],hxl,rfl⟩⟩
  | ok z =>
   obtain ⟨y,r⟩:=z
   rintro ⟨rfl,rfl,rfl,rfl⟩ ⟨_,hs,hl,hn⟩
   exact ⟨_,k04,b14,x,p,l,c,ts',_,0,b4,(s2.keep' e24 (by simp)).mono (by omega),gx,pb2.keep e24 (by simp),.inl ⟨rfl,rfl,ts'.length,rfl,Nat.le_refl _,hs,hn,rfl⟩⟩
 obtain ⟨m0,start⟩:=start
 refine loop_of (cs:=[]) (fun y m h'=>LoopS h A h.size h2.size d ts (partG fac ts) (partL fac) m h') () m0 rfl start ?_
 rintro ⟨⟩ m h5 ⟨k5,b15,x,p,l,c,ts',d',e',b5,s5,gx,pb5,cas⟩
 dsimp only [flat,unc,unc1,nA,cA]
 have cl5:=hrest h5 k5
 have hh2:h2.size<h5.size:=b5.lt
 have hz5:=k5.size
 refine loads_box cl5.b3 (some ⟨A,0,none⟩,()) rfl ?_
 dsimp only [flat,unc,unc1,nA,cA]
 refine call_of (sign79_hc pb5 42) ?_
 rintro _ h6 ⟨rfl,k6,z6,pb6⟩
 refine ⟨(signB e' ts' 42,()),rfl,?_⟩
 dsimp only [flat,unc,unc1,nA,cA]
 have k06:Ch [A] h h6:=Ch.trans k5 k6 (fun j hj _=>hj)
 have cl6:=hrest h6 k06
 have b16:=b15.keep k6 (by simp; omega)
 have b6:=b5.keep k6 (by simp; omega)
 have s6:=s5.keep' k6 (fun j hj=>by have:=(s5.blk hj).1; simp; omega)
 refine cond_mk (fun g1=>?_) (fun g1=>?_)
 ·rw [if_pos g1] at pb6
  have he0:e'=0:=by
   unfold signB at g1
   simp only [Bool.and_eq_true,decide_eq_true_eq] at g1
   exact g1.1
  rcases cas with ⟨_,rfl,n,hq,hn,hsuf,hxn,rfl⟩ | ⟨h0,_⟩
  case inr=>exact absurd he0 h0
  subst he0
  cases ts' with
  | nil=>cases g1
  | cons t r =>
   have g1:isS t 42=true:=g1
   simp only [List.length_cons] at hn hxn
   obtain ⟨n',rfl⟩:∃ n',n=n'+1:=⟨n-1,by omega⟩
   have pb6:PB h6 A r d 0:=pb6
   have wr:Wf r:=(w.suffix hsuf).tail
   have hpl:partG fac ts=match fac r with
    | .error e=>.error e
    | .ok (y,r'')=>if x.terms≠[]∧y.terms≠[] then .error 21 else if y.terms≠[] then partL fac n' (linT y x.num) r'' else partL fac n' (linT x y.num) r'':=by
    rw [hq]
    show (if isS t 42=true then _ else _)=_
    rw [if_pos g1]
    all_goals (cases fac r <;> rfl)
   refine loads_box cl6.b5 (.func (.func 84) #[] #[ptr a3,ptr a4],()) rfl ?_
   dsimp only [flat,unc,unc1,nA,cA]
   refine callv_of (cap:=[ptr a3,ptr a4]) hb78 rfl (hfac h6 r cl6 pb6 wr (by omega)) ?_
   rintro _ h7 ⟨k7,y,p',l',c',ts',d',e',rfl,s7,gy,pb7,post⟩
   refine ⟨((p',l',c'),(y.num:Int),()),rfl,?_⟩
   dsimp only [flat,unc,unc1,nA,cA]
   have hz7:=k7.size
   refine newB ?_
   intro h8 b8 e8 z8
   refine stores_of b8 rfl (by simp) ?_
   intro h9 b9 k9 z9
   have b9:Box h9 h7.size 26 [.slice p' l' c',.int .u32 (y.num:Int)]:=b9
   have e79:Ext h7 h9:=Ch.trans e8 k9 (fun j hj hl=>by simp at hj; omega)
   have k69:Ch [A] h6 h9:=Ch.trans k7 e79 (by simp)
   have k09:Ch [A] h h9:=Ch.trans k06 k69 (fun j hj _=>hj)
   have cl9:=hrest h9 k09
   have pb9:=pb7.keep e79 (by simp)
   have b19:=b16.keep k69 (by simp; omega)
   have bx9:=b6.keep k69 (by simp; omega)
   have sx9:=s6.keep' k69 (fun j hj=>by have:=(s6.blk hj).1; simp; omega)
   have sy9:=(s7.keep' e79 (by simp)).mono (b':=h.size+1) (by omega)
   refine loads_box cl9.b3 (some ⟨A,0,none⟩,()) rfl ?_
   dsimp only [flat,unc,unc1,nA,cA]
   obtain ⟨q,mq,cq,bQ,vq,hqq⟩:=pb9
   have pb9:PB h9 A ts' d' e':=⟨q,mq,cq,bQ,vq,hqq⟩
   refine osome_mk rfl ?_
   rw [add_box]
   refine loads_box bQ ((e':Int),()) rfl ?_
   dsimp only [flat,unc,unc1,nA,cA]
   refine cond_mk (fun g2=>?_) (fun g2=>?_)
   ·have g2:¬ e'=0:=by simpa using g2
    refine again_mk (cs:=[]) () 0 rfl (by omega) rfl ⟨k09,b19,x,p,l,c,ts',d',e',bx9,sx9,gx,pb9,.inr ⟨g2,?_,by omega,rfl⟩⟩
    rw [hpl]
    revert post
    cases fac r with
    | error e=>rintro ⟨he,_,_⟩; rw [he]
    | ok z=>obtain ⟨_,_⟩:=z; rintro ⟨he,_,_,_⟩; exact absurd he g2
   ·have g2:e'=0:=by simpa using g2
    subst g2
    have hff:=hfine r wr
    revert post hff
    cases hfr:fac r with
    | error e=>rintro ⟨rfl,he,_⟩ _; exact absurd rfl he
    | ok z =>
     obtain ⟨y',r''⟩:=z
     rintro ⟨_,rfl,rfl,rfl⟩ ⟨_,hs2,hl2,hn2⟩
     rw [hfr] at hpl
     simp only at hpl
     have hlx:l=x.terms.length:=by rw [sx9.1,List.length_map]
     have hly:l'=y.terms.length:=by rw [sy9.1,List.length_map]
     have hsuf2:ts' <:+ ts:=(hs2.trans (List.suffix_cons _ _)).trans hsuf
     refine join_of (cs:=[(false,[.bool])]) (fun z h'=>z.1=(decide (x.terms≠[]) && decide (y.terms≠[]))∧h9=h') ?_ ?_
     ·refine loads_box bx9 ((p,l,c),()) rfl ?_
      dsimp only [flat,unc,unc1,nA,cA]
      refine cond_mk (fun g3=>?_) (fun g3=>?_)
      ·have g3:=of_decide_eq_true g3
       refine loads_box b9 ((p',l',c'),()) rfl ?_
       dsimp only [flat,unc,unc1,nA,cA]
       refine meet_mk (cs:=[(false,[.bool])]) (decide ((l':Int)>0),()) rfl rfl ⟨?_,rfl⟩
       have hx0:x.terms≠[]:=fun hh=>by rw [hh] at hlx; simp at hlx; omega
       rw [decide_eq_true hx0,Bool.true_and]
       cases hy0:y.terms with
       | nil=>rw [hy0] at hly; simp at hly; subst hly; rfl
       | cons a b =>
        rw [hy0] at hly
        simp only [List.length_cons] at hly
        show decide ((l':Int)>0)=decide (a::b≠[])
        rw [decide_eq_true (by omega),decide_eq_true (by simp)]
      ·have g3:=of_decide_eq_false g3
       refine meet_mk (cs:=[(false,[.bool])]) (false,()) rfl rfl ⟨?_,rfl⟩
       have hx0:x.terms=[]:=List.length_eq_zero_iff.1 (by omega)
       rw [hx0]
       rfl
     ·rintro ⟨b10,⟨⟩⟩ h9' ⟨hb10,rfl⟩
      simp only at hb10
      subst hb10
      dsimp only [flat,unc,unc1,nA,cA]
      refine cond_mk (fun g3=>?_) (fun g3=>?_)
      ·simp only [Bool.and_eq_true,decide_eq_true_eq] at g3
       rw [if_pos g3] at hpl
       refine loads_box cl9.b3 (some ⟨A,0,none⟩,()) rfl ?_
       dsimp only [flat,unc,unc1,nA,cA]
       refine call_of (refuse80_hc pb9 21) ?_
       rintro _ h10 ⟨rfl,k10,z10,pb10⟩
       refine ⟨(),rfl,?_⟩
       dsimp only [flat,unc,unc1,nA,cA]
       refine again_mk (cs:=[]) () 0 rfl (by omega) rfl ⟨Ch.trans k09 k10 (fun j hj _=>hj),b19.keep k10 (by simp; omega),x,p,l,c,ts',_,21,bx9.keep k10 (by simp; omega),sx9.keep' k10 (fun j hj=>by have:=(sx9.blk hj).1; simp; omega),gx,pb10,.inr ⟨by omega,hpl,by omega,rfl⟩⟩
      ·rw [if_neg (by intro hh; rw [decide_eq_true hh.1,decide_eq_true hh.2] at g3; cases g3)] at hpl
       refine loads_box b9 ((p',l',c'),()) rfl ?_
       dsimp only [flat,unc,unc1,nA,cA]
       have hh9:=b9.lt
       refine cond_mk (fun g4=>?_) (fun g4=>?_)
       ·have g4:=of_decide_eq_true g4
        rw [if_pos (by intro hh; rw [hh] at hly; simp at hly; omega)] at hpl
        refine loads_box b9 ((p',l',c'),(y.num:Int),()) rfl ?_
        dsimp only [flat,unc,unc1,nA,cA]
        rw [add_box]
        refine loads_box bx9 ((x.num:Int),()) rfl ?_
        dsimp only [flat,unc,unc1,nA,cA]
        refine call_of (times_hc sy9.vwT (by omega) gy.size x.num) ?_
        rintro _ h10 ⟨e10,q',m',cq',rfl,s10⟩
        rw [linTimes_eq gy.nf] at s10 ⊢
        refine ⟨((q',m',cq'),((linT y x.num).num:Int),()),rfl,?_⟩
        dsimp only [flat,unc,unc1,nA,cA]
        refine stores_of (bx9.keep e10 (by simp)) rfl (by simp) ?_
        intro h11 b11 k11 z11
        have b11:Box h11 h2.size 26 [.slice q' m' cq',.int .u32 ((linT y x.num).num:Int)]:=b11
        have hz9:=k09.size
        have hz69:=k69.size
        have k911:Ch [h2.size] h9 h11:=Ch.trans (e10.mono (by simp)) k11 (fun j hj _=>hj)
        have htl:=timesN_length x.num y.terms
        refine again_mk (cs:=[]) () (n'+1) rfl (by omega) rfl ⟨Ch.trans k09 k911 (fun j hj hl=>by simp at hj; omega),b19.keep k911 (by simp; omega),linT y x.num,q',m',cq',ts',_,0,b11,(s10.keep' k11 (fun j hj=>by have:=(s10.blk hj).1; simp; omega)).mono (by omega),gy.T _,pb9.keep k911 (by simp; omega),
         .inl ⟨rfl,rfl,n',hpl,by omega,hsuf2,?_,rfl⟩⟩
        show (timesN x.num y.terms).length+ts'.length≤ts.length
        omega
       ·have g4:=of_decide_eq_false g4
        rw [if_neg (by intro hh; exact hh (List.length_eq_zero_iff.1 (by omega)))] at hpl
        refine loads_box bx9 ((p,l,c),(x.num:Int),()) rfl ?_
        dsimp only [flat,unc,unc1,nA,cA]
        rw [add_box]
        refine loads_box b9 ((y.num:Int),()) rfl ?_
        dsimp only [flat,unc,unc1,nA,cA]
        refine call_of (times_hc sx9.vwT (by omega) gx.size y.num) ?_
        rintro _ h10 ⟨e10,q',m',cq',rfl,s10⟩
        rw [linTimes_eq gx.nf] at s10 ⊢
        refine ⟨((q',m',cq'),((linT x y.num).num:Int),()),rfl,?_⟩
        dsimp only [flat,unc,unc1,nA,cA]
        refine stores_of (bx9.keep e10 (by simp)) rfl (by simp) ?_
        intro h11 b11 k11 z11
        have b11:Box h11 h2.size 26 [.slice q' m' cq',.int .u32 ((linT x y.num).num:Int)]:=b11
        have hz9:=k09.size
        have hz69:=k69.size
        have k911:Ch [h2.size] h9 h11:=Ch.trans (e10.mono (by simp)) k11 (fun j hj _=>hj)
        have htl:=timesN_length y.num x.terms
        refine again_mk (cs:=[]) () (n'+1) rfl (by omega) rfl ⟨Ch.trans k09 k911 (fun j hj hl=>by simp at hj; omega),b19.keep k911 (by simp; omega),linT x y.num,q',m',cq',ts',_,0,b11,(s10.keep' k11 (fun j hj=>by have:=(s10.blk hj).1; simp; omega)).mono (by omega),gx.T _,pb9.keep k911 (by simp; omega),
         .inl ⟨rfl,rfl,n',hpl,by omega,hsuf2,?_,rfl⟩⟩
        show (timesN y.num x.terms).length+ts'.length≤ts.length
        omega
 ·rw [if_neg (by rw [g1]; simp)] at pb6
  refine loads_box b6 ((p,l,c),(x.num:Int),()) rfl ?_
  dsimp only [flat,unc,unc1,nA,cA]
  refine stores_of b16 rfl (by simp) ?_
  intro h7 b7 k7 z7
  have b7:Box h7 h.size 26 [.slice p l c,.int .u32 (x.num:Int)]:=b7
  refine loads_box b7 ((p,l,c),(x.num:Int),()) rfl ?_
  refine ⟨Ch.trans k06 k7 (fun j hj hl=>by simp at hj; omega),x,p,l,c,ts',d',e',rfl,?_,gx,pb6.keep k7 (by simp; omega),?_⟩
  ·exact (s6.keep' k7 (fun j hj=>by have:=(s6.blk hj).1; simp; omega)).mono (by omega)
  ·rcases cas with ⟨rfl,rfl,n,hq,hn,hsuf,hxn,rfl⟩ | ⟨h0,hq,hxl,rfl⟩
   ·rw [hq,partL_stop g1]
    exact ⟨rfl,rfl,rfl,rfl⟩
   ·rw [hq]
    exact ⟨rfl,h0,hxl⟩
end Go.Sx
