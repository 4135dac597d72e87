/- Contracts over heaps, and plain laws, for the functions that the laws of chapter 9 call, part 3: Parts and sums, read over heaps: the closures of Parse do what the plain words s Condition: as each statement says. -/
import Derived.Test.YtfkjiiapldkoeaaGreatDoorP2
import Derived.Test.YtfkjiiapldkoeaaGreatDoorAExprX
import Derived.Test.YtfkjiiapldkoeaaGreatDoorAobjT
import Derived.Test.YtfkjiiapldkoeaaGreatDoorAobjU
set_option linter.unusedVariables false
set_option linter.unusedSimpArgs false
set_option maxRecDepth 100000
namespace Go.Sx
open Go.Proofs
def LoopS (h:Hp) (A A1 A7:Nat) (d:Int) (ts:List Tok) (q:PRes) (rest:Nat→Lin→List Tok→PRes) (m:Nat) (h':Hp):Prop :=
 Ch [A] h h'∧Box h' A1 94 [.slice none 0 0,.int .u32 0]∧∃ x p l c ts' d' e',Box h' A7 94 [.slice p l c,.int .u32 (x.num:Int)]∧SL h' (A1+1) 109 2 p l c (x.terms.map encT)∧Good x∧PB h' A ts' d' e' ∧
  ((e'=0∧d'=d∧∃ n,q=rest n x ts'∧ts'.length≤n∧ts' <:+ ts∧x.terms.length+ts'.length≤ts.length∧m=n+1)∨(e'≠0∧q=.error e'∧x.terms.length≤ts.length∧m=0))
theorem partL_stop {fac:List Tok→PRes} {n:Nat} {x:Lin} {ts:List Tok} (h:signB 0 ts 42=false):partL fac n x ts=.ok (x,ts):=by
 cases n with
 | zero=>rfl
 | succ n =>
  cases ts with
  | nil=>rfl
  | cons t r =>
   have h:isS t 42=false:=h
   unfold partL
   simp only
   rw [if_neg (by rw [h]; simp)]
def FacC (P:Program) (f:FuncId) (cap:List Value) (A a3 a4 a5 a6 d:Nat) (g:List Tok→PRes):Prop :=
 ∀ h ts,Cl h A a3 a4 a5 a6→PB h A ts d 0→Wf ts→ts.length≤2^40→HC P f cap.toArray h (ResP h A ts.length d (g ts))
theorem hb78:hasBody Tryz.prog 152=true:=by kernel_rfl
theorem hb81:hasBody Tryz.prog 157=true:=by kernel_rfl
theorem part_hc {A a3 a4 a5 a6 d:Nat} {fac:List Tok→PRes} (hfac:FacC Tryz.prog 152 [ptr a3,ptr a4] A a3 a4 a5 a6 d fac) (hfine:∀ ts,Wf ts→Fine ts (fac ts)) :
  FacC Tryz.prog 157 [ptr a5,ptr a3] A a3 a4 a5 a6 d (partG fac):=by
 intro h ts cl pb w hts
 refine hcr_of (args:=[ptr a5,ptr a3]) mixed Tryz.func157 (by kernel_rfl) (t_expr_Parse_2_part_eq ⟨a5,0,none⟩ ⟨a3,0,none⟩) ?_
 unfold t_expr_Parse_2_part
 have hA:=pb.lt
 have hcl:=cl.lt
 refine newB ?_
 intro h1 b1 e1 z1
 have cl1:=cl.keep e1 (by simp)
 refine loads_box cl1.b5 (.func (.func 152) #[] #[ptr a3,ptr a4],()) rfl ?_
 dsimp only [flat,unc,unc1,nA,cA]
 refine callv_of (cap:=[ptr a3,ptr a4]) hb78 rfl (hfac h1 ts cl1 (pb.keep e1 (by simp)) w hts) ?_
 rintro _ h2 ⟨k2,x,p,l,c,ts',d',e',rfl,s2,gx,pb2,post⟩
 refine ⟨((p,l,c),(x.num:Int),()),rfl,?_⟩
 dsimp only [flat,unc,unc1,nA,cA]
 refine newB ?_
 intro h3 b3 e3 z3
 refine stores_of b3 rfl (by simp) ?_
 intro h4 b4 k4 z4
 have b4:Box h4 h2.size 94 [.slice p l c,.int .u32 (x.num:Int)]:=b4
 have hz2:=k2.size
 have e24:Ext h2 h4:=Ch.trans e3 k4 (fun j hj hl=>by simp at hj; omega)
 have k04:Ch [A] h h4:=Ch.trans (Ch.trans (e1.mono (by simp)) k2 (fun j hj _=>hj)) e24 (by simp)
 have b14:=(b1.keep k2 (by simp; omega)).keep e24 (by simp)
 have hrest:∀ h',Ch [A] h h'→Cl h' A a3 a4 a5 a6:=fun h' k=>cl.keep k (by simp)
 have hmid:∀ e0,e0∈[(0:Nat)]→True:=fun _ _=>trivial
 have start:∃ m,LoopS h A h.size h2.size d ts (partG fac ts) (partL fac) m h4:=by
  have hf:=hfine ts w
  revert post hf
  unfold partG
  cases hfr:fac ts with
  | error e =>
   rintro ⟨he,he0,hxl⟩ _
   exact ⟨0,k04,b14,x,p,l,c,ts',d',e',b4,(s2.keep' e24 (by simp)).mono (by omega),gx,pb2.keep e24 (by simp),.inr ⟨by omega,by rw [he],hxl,rfl⟩⟩
  | ok z =>
   obtain ⟨y,r⟩:=z
   rintro ⟨rfl,rfl,rfl,rfl⟩ ⟨_,hs,hl,hn⟩
   exact ⟨_,k04,b14,x,p,l,c,ts',_,0,b4,(s2.keep' e24 (by simp)).mono (by omega),gx,pb2.keep e24 (by simp),.inl ⟨rfl,rfl,ts'.length,rfl,Nat.le_refl _,hs,hn,rfl⟩⟩
 obtain ⟨m0,start⟩:=start
 refine loop_of (cs:=[]) (fun y m h'=>LoopS h A h.size h2.size d ts (partG fac ts) (partL fac) m h') () m0 rfl start ?_
 rintro ⟨⟩ m h5 ⟨k5,b15,x,p,l,c,ts',d',e',b5,s5,gx,pb5,cas⟩
 dsimp only [flat,unc,unc1,nA,cA]
 have cl5:=hrest h5 k5
 have hh2:h2.size<h5.size:=b5.lt
 have hz5:=k5.size
 refine loads_box cl5.b3 (some ⟨A,0,none⟩,()) rfl ?_
 dsimp only [flat,unc,unc1,nA,cA]
 refine call_of (sign79_hc pb5 42) ?_
 rintro _ h6 ⟨rfl,k6,z6,pb6⟩
 refine ⟨(signB e' ts' 42,()),rfl,?_⟩
 dsimp only [flat,unc,unc1,nA,cA]
 have k06:Ch [A] h h6:=Ch.trans k5 k6 (fun j hj _=>hj)
 have cl6:=hrest h6 k06
 have b16:=b15.keep k6 (by simp; omega)
 have b6:=b5.keep k6 (by simp; omega)
 have s6:=s5.keep' k6 (fun j hj=>by have:=(s5.blk hj).1; simp; omega)
 refine cond_mk (fun g1=>?_) (fun g1=>?_)
 ·rw [if_pos g1] at pb6
  have he0:e'=0:=by
   unfold signB at g1
   simp only [Bool.and_eq_true,decide_eq_true_eq] at g1
   exact g1.1
  rcases cas with ⟨_,rfl,n,hq,hn,hsuf,hxn,rfl⟩ | ⟨h0,_⟩
  case inr=>exact absurd he0 h0
  subst he0
  cases ts' with
  | nil=>cases g1
  | cons t r =>
   have g1:isS t 42=true:=g1
   simp only [List.length_cons] at hn hxn
   obtain ⟨n',rfl⟩:∃ n',n=n'+1:=⟨n-1,by omega⟩
   have pb6:PB h6 A r d 0:=pb6
   have wr:Wf r:=(w.suffix hsuf).tail
   have hpl:partG fac ts=match fac r with
    | .error e=>.error e
    | .ok (y,r'')=>if x.terms≠[]∧y.terms≠[] then .error 21 else if y.terms≠[] then partL fac n' (linT y x.num) r'' else partL fac n' (linT x y.num) r'':=by
    rw [hq]
    show (if isS t 42=true then _ else _)=_
    rw [if_pos g1]
    all_goals (cases fac r <;> rfl)
   refine loads_box cl6.b5 (.func (.func 152) #[] #[ptr a3,ptr a4],()) rfl ?_
   dsimp only [flat,unc,unc1,nA,cA]
   refine callv_of (cap:=[ptr a3,ptr a4]) hb78 rfl (hfac h6 r cl6 pb6 wr (by omega)) ?_
   rintro _ h7 ⟨k7,y,p',l',c',ts',d',e',rfl,s7,gy,pb7,post⟩
   refine ⟨((p',l',c'),(y.num:Int),()),rfl,?_⟩
   dsimp only [flat,unc,unc1,nA,cA]
   have hz7:=k7.size
   refine newB ?_
   intro h8 b8 e8 z8
   refine stores_of b8 rfl (by simp) ?_
   intro h9 b9 k9 z9
   have b9:Box h9 h7.size 94 [.slice p' l' c',.int .u32 (y.num:Int)]:=b9
   have e79:Ext h7 h9:=Ch.trans e8 k9 (fun j hj hl=>by simp at hj; omega)
   have k69:Ch [A] h6 h9:=Ch.trans k7 e79 (by simp)
   have k09:Ch [A] h h9:=Ch.trans k06 k69 (fun j hj _=>hj)
   have cl9:=hrest h9 k09
   have pb9:=pb7.keep e79 (by simp)
   have b19:=b16.keep k69 (by simp; omega)
   have bx9:=b6.keep k69 (by simp; omega)
   have sx9:=s6.keep' k69 (fun j hj=>by have:=(s6.blk hj).1; simp; omega)
   have sy9:=(s7.keep' e79 (by simp)).mono (b':=h.size+1) (by omega)
   refine loads_box cl9.b3 (some ⟨A,0,none⟩,()) rfl ?_
   dsimp only [flat,unc,unc1,nA,cA]
   obtain ⟨q,mq,cq,bQ,vq,hqq⟩:=pb9
   have pb9:PB h9 A ts' d' e':=⟨q,mq,cq,bQ,vq,hqq⟩
   refine osome_mk rfl ?_
   rw [add_box]
   refine loads_box bQ ((e':Int),()) rfl ?_
   dsimp only [flat,unc,unc1,nA,cA]
   refine cond_mk (fun g2=>?_) (fun g2=>?_)
   ·have g2:¬ e'=0:=by simpa using g2
    refine again_mk (cs:=[]) () 0 rfl (by omega) rfl ⟨k09,b19,x,p,l,c,ts',d',e',bx9,sx9,gx,pb9,.inr ⟨g2,?_,by omega,rfl⟩⟩
    rw [hpl]
    revert post
    cases fac r with
    | error e=>rintro ⟨he,_,_⟩; rw [he]
    | ok z=>obtain ⟨_,_⟩:=z; rintro ⟨he,_,_,_⟩; exact absurd he g2
   ·have g2:e'=0:=by simpa using g2
    subst g2
    have hff:=hfine r wr
    revert post hff
    cases hfr:fac r with
    | error e=>rintro ⟨rfl,he,_⟩ _; exact absurd rfl he
    | ok z =>
     obtain ⟨y',r''⟩:=z
     rintro ⟨_,rfl,rfl,rfl⟩ ⟨_,hs2,hl2,hn2⟩
     rw [hfr] at hpl
     simp only at hpl
     have hlx:l=x.terms.length:=by rw [sx9.1,List.length_map]
     have hly:l'=y.terms.length:=by rw [sy9.1,List.length_map]
     have hsuf2:ts' <:+ ts:=(hs2.trans (List.suffix_cons _ _)).trans hsuf
     refine join_of (cs:=[(false,[.bool])]) (fun z h'=>z.1=(decide (x.terms≠[]) && decide (y.terms≠[]))∧h9=h') ?_ ?_
     ·refine loads_box bx9 ((p,l,c),()) rfl ?_
      dsimp only [flat,unc,unc1,nA,cA]
      refine cond_mk (fun g3=>?_) (fun g3=>?_)
      ·have g3:=of_decide_eq_true g3
       refine loads_box b9 ((p',l',c'),()) rfl ?_
       dsimp only [flat,unc,unc1,nA,cA]
       refine meet_mk (cs:=[(false,[.bool])]) (decide ((l':Int)>0),()) rfl rfl ⟨?_,rfl⟩
       have hx0:x.terms≠[]:=fun hh=>by rw [hh] at hlx; simp at hlx; omega
       rw [decide_eq_true hx0,Bool.true_and]
       cases hy0:y.terms with
       | nil=>rw [hy0] at hly; simp at hly; subst hly; rfl
       | cons a b =>
        rw [hy0] at hly
        simp only [List.length_cons] at hly
        show decide ((l':Int)>0)=decide (a::b≠[])
        rw [decide_eq_true (by omega),decide_eq_true (by simp)]
      ·have g3:=of_decide_eq_false g3
       refine meet_mk (cs:=[(false,[.bool])]) (false,()) rfl rfl ⟨?_,rfl⟩
       have hx0:x.terms=[]:=List.length_eq_zero_iff.1 (by omega)
       rw [hx0]
       rfl
     ·rintro ⟨b10,⟨⟩⟩ h9' ⟨hb10,rfl⟩
      simp only at hb10
      subst hb10
      dsimp only [flat,unc,unc1,nA,cA]
      refine cond_mk (fun g3=>?_) (fun g3=>?_)
      ·simp only [Bool.and_eq_true,decide_eq_true_eq] at g3
       rw [if_pos g3] at hpl
       refine loads_box cl9.b3 (some ⟨A,0,none⟩,()) rfl ?_
       dsimp only [flat,unc,unc1,nA,cA]
       refine call_of (refuse80_hc pb9 21) ?_
       rintro _ h10 ⟨rfl,k10,z10,pb10⟩
       refine ⟨(),rfl,?_⟩
       dsimp only [flat,unc,unc1,nA,cA]
       refine again_mk (cs:=[]) () 0 rfl (by omega) rfl ⟨Ch.trans k09 k10 (fun j hj _=>hj),b19.keep k10 (by simp; omega),x,p,l,c,ts',_,21,bx9.keep k10 (by simp; omega),sx9.keep' k10 (fun j hj=>by have:=(sx9.blk hj).1; simp; omega),gx,pb10,.inr ⟨by omega,hpl,by omega,rfl⟩⟩
      ·rw [if_neg (by intro hh; rw [decide_eq_true hh.1,decide_eq_true hh.2] at g3; cases g3)] at hpl
       refine loads_box b9 ((p',l',c'),()) rfl ?_
       dsimp only [flat,unc,unc1,nA,cA]
       have hh9:=b9.lt
       refine cond_mk (fun g4=>?_) (fun g4=>?_)
       ·have g4:=of_decide_eq_true g4
        rw [if_pos (by intro hh; rw [hh] at hly; simp at hly; omega)] at hpl
        refine loads_box b9 ((p',l',c'),(y.num:Int),()) rfl ?_
        dsimp only [flat,unc,unc1,nA,cA]
        rw [add_box]
        refine loads_box bx9 ((x.num:Int),()) rfl ?_
        dsimp only [flat,unc,unc1,nA,cA]
        refine call_of (times_hc sy9.vwT (by omega) gy.size x.num) ?_
        rintro _ h10 ⟨e10,q',m',cq',rfl,s10⟩
        rw [linTimes_eq gy.nf] at s10 ⊢
        refine ⟨((q',m',cq'),((linT y x.num).num:Int),()),rfl,?_⟩
        dsimp only [flat,unc,unc1,nA,cA]
        refine stores_of (bx9.keep e10 (by simp)) rfl (by simp) ?_
        intro h11 b11 k11 z11
        have b11:Box h11 h2.size 94 [.slice q' m' cq',.int .u32 ((linT y x.num).num:Int)]:=b11
        have hz9:=k09.size
        have hz69:=k69.size
        have k911:Ch [h2.size] h9 h11:=Ch.trans (e10.mono (by simp)) k11 (fun j hj _=>hj)
        have htl:=timesN_length x.num y.terms
        refine again_mk (cs:=[]) () (n'+1) rfl (by omega) rfl ⟨Ch.trans k09 k911 (fun j hj hl=>by simp at hj; omega),b19.keep k911 (by simp; omega),linT y x.num,q',m',cq',ts',_,0,b11,(s10.keep' k11 (fun j hj=>by have:=(s10.blk hj).1; simp; omega)).mono (by omega),gy.T _,pb9.keep k911 (by simp; omega),
         .inl ⟨rfl,rfl,n',hpl,by omega,hsuf2,?_,rfl⟩⟩
        show (timesN x.num y.terms).length+ts'.length≤ts.length
        omega
       ·have g4:=of_decide_eq_false g4
        rw [if_neg (by intro hh; exact hh (List.length_eq_zero_iff.1 (by omega)))] at hpl
        refine loads_box bx9 ((p,l,c),(x.num:Int),()) rfl ?_
        dsimp only [flat,unc,unc1,nA,cA]
        rw [add_box]
        refine loads_box b9 ((y.num:Int),()) rfl ?_
        dsimp only [flat,unc,unc1,nA,cA]
        refine call_of (times_hc sx9.vwT (by omega) gx.size y.num) ?_
        rintro _ h10 ⟨e10,q',m',cq',rfl,s10⟩
        rw [linTimes_eq gx.nf] at s10 ⊢
        refine ⟨((q',m',cq'),((linT x y.num).num:Int),()),rfl,?_⟩
        dsimp only [flat,unc,unc1,nA,cA]
        refine stores_of (bx9.keep e10 (by simp)) rfl (by simp) ?_
        intro h11 b11 k11 z11
        have b11:Box h11 h2.size 94 [.slice q' m' cq',.int .u32 ((linT x y.num).num:Int)]:=b11
        have hz9:=k09.size
        have hz69:=k69.size
        have k911:Ch [h2.size] h9 h11:=Ch.trans (e10.mono (by simp)) k11 (fun j hj _=>hj)
        have htl:=timesN_length y.num x.terms
        refine again_mk (cs:=[]) () (n'+1) rfl (by omega) rfl ⟨Ch.trans k09 k911 (fun j hj hl=>by simp at hj; omega),b19.keep k911 (by simp; omega),linT x y.num,q',m',cq',ts',_,0,b11,(s10.keep' k11 (fun j hj=>by have:=(s10.blk hj).1; simp; omega)).mono (by omega),gx.T _,pb9.keep k911 (by simp; omega),
         .inl ⟨rfl,rfl,n',hpl,by omega,hsuf2,?_,rfl⟩⟩
        show (timesN y.num x.terms).length+ts'.length≤ts.length
        omega
 ·rw [if_neg (by rw [g1]; simp)] at pb6
  refine loads_box b6 ((p,l,c),(x.num:Int),()) rfl ?_
  dsimp only [flat,unc,unc1,nA,cA]
  refine stores_of b16 rfl (by simp) ?_
  intro h7 b7 k7 z7
  have b7:Box h7 h.size 94 [.slice p l c,.int .u32 (x.num:Int)]:=b7
  refine loads_box b7 ((p,l,c),(x.num:Int),()) rfl ?_
  refine ⟨Ch.trans k06 k7 (fun j hj hl=>by simp at hj; omega),x,p,l,c,ts',d',e',rfl,?_,gx,pb6.keep k7 (by simp; omega),?_⟩
  ·exact (s6.keep' k7 (fun j hj=>by have:=(s6.blk hj).1; simp; omega)).mono (by omega)
  ·rcases cas with ⟨rfl,rfl,n,hq,hn,hsuf,hxn,rfl⟩ | ⟨h0,hq,hxl,rfl⟩
   ·rw [hq,partL_stop g1]
    exact ⟨rfl,rfl,rfl,rfl⟩
   ·rw [hq]
    exact ⟨rfl,h0,hxl⟩
theorem sumL_stop {part:List Tok→PRes} {n:Nat} {x:Lin} {ts:List Tok} (h:signB 0 ts 43=false) (k:signB 0 ts 45=false):sumL part n x ts=.ok (x,ts):=by
 cases n with
 | zero=>rfl
 | succ n =>
  cases ts with
  | nil=>rfl
  | cons t r =>
   have h:isS t 43=false:=h
   have k:isS t 45=false:=k
   unfold sumL
   simp only
   rw [if_neg (by rw [h]; simp),if_neg (by rw [k]; simp)]
theorem sum_hc {A a3 a4 a5 a6 d:Nat} {part:List Tok→PRes} (hpart:FacC Tryz.prog 157 [ptr a5,ptr a3] A a3 a4 a5 a6 d part) (hfine:∀ ts,Wf ts→Fine ts (part ts)) :
  FacC Tryz.prog 158 [ptr a6,ptr a3] A a3 a4 a5 a6 d (sumG part):=by
 intro h ts cl pb w hts
 refine hcr_of (args:=[ptr a6,ptr a3]) mixed Tryz.func158 (by kernel_rfl) (t_expr_Parse_3_sum_eq ⟨a6,0,none⟩ ⟨a3,0,none⟩) ?_
 unfold t_expr_Parse_3_sum
 have hA:=pb.lt
 have hcl:=cl.lt
 refine newB ?_
 intro h1 b1 e1 z1
 have cl1:=cl.keep e1 (by simp)
 refine loads_box cl1.b6 (.func (.func 157) #[] #[ptr a5,ptr a3],()) rfl ?_
 dsimp only [flat,unc,unc1,nA,cA]
 refine callv_of (cap:=[ptr a5,ptr a3]) hb81 rfl (hpart h1 ts cl1 (pb.keep e1 (by simp)) w hts) ?_
 rintro _ h2 ⟨k2,x,p,l,c,ts',d',e',rfl,s2,gx,pb2,post⟩
 refine ⟨((p,l,c),(x.num:Int),()),rfl,?_⟩
 dsimp only [flat,unc,unc1,nA,cA]
 refine newB ?_
 intro h3 b3 e3 z3
 refine stores_of b3 rfl (by simp) ?_
 intro h4 b4 k4 z4
 have b4:Box h4 h2.size 94 [.slice p l c,.int .u32 (x.num:Int)]:=b4
 have hz2:=k2.size
 have e24:Ext h2 h4:=Ch.trans e3 k4 (fun j hj hl=>by simp at hj; omega)
 have k04:Ch [A] h h4:=Ch.trans (Ch.trans (e1.mono (by simp)) k2 (fun j hj _=>hj)) e24 (by simp)
 have b14:=(b1.keep k2 (by simp; omega)).keep e24 (by simp)
 have hrest:∀ h',Ch [A] h h'→Cl h' A a3 a4 a5 a6:=fun h' k=>cl.keep k (by simp)
 have start:∃ m,LoopS h A h.size h2.size d ts (sumG part ts) (sumL part) m h4:=by
  have hf:=hfine ts w
  revert post hf
  unfold sumG
  cases hfr:part ts with
  | error e =>
   rintro ⟨he,he0,hxl⟩ _
   exact ⟨0,k04,b14,x,p,l,c,ts',d',e',b4,(s2.keep' e24 (by simp)).mono (by omega),gx,pb2.keep e24 (by simp),.inr ⟨by omega,by rw [he],hxl,rfl⟩⟩
  | ok z =>
   obtain ⟨y,r⟩:=z
   rintro ⟨rfl,rfl,rfl,rfl⟩ ⟨_,hs,hl,hn⟩
   exact ⟨_,k04,b14,x,p,l,c,ts',_,0,b4,(s2.keep' e24 (by simp)).mono (by omega),gx,pb2.keep e24 (by simp),.inl ⟨rfl,rfl,ts'.length,rfl,Nat.le_refl _,hs,hn,rfl⟩⟩
 obtain ⟨m0,start⟩:=start
 refine loop_of (cs:=[]) (fun y m h'=>LoopS h A h.size h2.size d ts (sumG part ts) (sumL part) m h') () m0 rfl start ?_
 rintro ⟨⟩ m h5 ⟨k5,b15,x,p,l,c,ts',d',e',b5,s5,gx,pb5,cas⟩
 dsimp only [flat,unc,unc1,nA,cA]
 have cl5:=hrest h5 k5
 have hh2:h2.size<h5.size:=b5.lt
 have hz5:=k5.size
 have out:∀ hx,Ch [A] h5 hx→PB hx A ts' d' e'→PostR ts.length d x ts' d' e' (sumG part ts)→∀ L,(T.loads ⟨h2.size,0,none⟩ [.slice 109,.int .u32] fun (p15:Option Addr) (l16:Nat) (l17:Nat) (n18:Int) =>
   T.stores ⟨h.size,0,none⟩ [.slice p15 l16 l17,.int .u32 n18] <| T.loads ⟨h.size,0,none⟩ [.slice 109,.int .u32] <| fun (p19:Option Addr) (l20:Nat) (l21:Nat) (n22:Int)=>T.ret (.agg #[.slice p19 l20 l21,.int .u32 n22])) L (ResP h A ts.length d (sumG part ts)) hx:=by
  intro hx kx pbx post L
  have hzx:=kx.size
  refine loads_box (b5.keep kx (by simp; omega)) ((p,l,c),(x.num:Int),()) rfl ?_
  dsimp only [flat,unc,unc1,nA,cA]
  refine stores_of (b15.keep kx (by simp; omega)) rfl (by simp) ?_
  intro h7 b7 k7 z7
  have b7:Box h7 h.size 94 [.slice p l c,.int .u32 (x.num:Int)]:=b7
  refine loads_box b7 ((p,l,c),(x.num:Int),()) rfl ?_
  have sx:=s5.keep' kx (fun j hj=>by have:=(s5.blk hj).1; simp; omega)
  refine ⟨Ch.trans (Ch.trans k5 kx (fun j hj _=>hj)) k7 (fun j hj hl=>by simp at hj; omega),x,p,l,c,ts',d',e',rfl,(sx.keep' k7 (fun j hj=>by have:=(sx.blk hj).1; simp; omega)).mono (by omega),gx,pbx.keep k7 (by simp; omega),post⟩
 refine loads_box cl5.b3 (some ⟨A,0,none⟩,()) rfl ?_
 dsimp only [flat,unc,unc1,nA,cA]
 obtain ⟨q,mq,cq,bQ,vq,hqq⟩:=pb5
 have pb5:PB h5 A ts' d' e':=⟨q,mq,cq,bQ,vq,hqq⟩
 refine osome_mk rfl ?_
 rw [add_box]
 refine loads_box bQ ((e':Int),()) rfl ?_
 dsimp only [flat,unc,unc1,nA,cA]
 refine cond_mk (fun g0=>?_) (fun g0=>?_)
 case refine_2 =>
  have g0:¬ e'=0:=by simpa using g0
  rcases cas with ⟨h0,_⟩ | ⟨_,hq,hxl,rfl⟩
  ·exact absurd h0 g0
  ·exact out h5 (Ch.refl _ _) pb5 (by rw [hq]; exact ⟨rfl,g0,hxl⟩) _
 have g0:e'=0:=by simpa using g0
 rcases cas with ⟨_,rfl,n,hq,hn,hsuf,hxn,rfl⟩ | ⟨h0,_⟩
 case inr=>exact absurd g0 h0
 subst g0
 refine loads_box cl5.b3 (some ⟨A,0,none⟩,()) rfl ?_
 dsimp only [flat,unc,unc1,nA,cA]
 refine call_of (sign79_hc pb5 43) ?_
 rintro _ h6 ⟨rfl,k6,z6,pb6⟩
 refine ⟨(signB 0 ts' 43,()),rfl,?_⟩
 dsimp only [flat,unc,unc1,nA,cA]
 refine cond_mk (fun g1=>?_) (fun g1=>?_)
 ·rw [if_pos g1] at pb6
  have k06:Ch [A] h h6:=Ch.trans k5 k6 (fun j hj _=>hj)
  have cl6:=hrest h6 k06
  have b16:=b15.keep k6 (by simp; omega)
  have b6:=b5.keep k6 (by simp; omega)
  have s6:=s5.keep' k6 (fun j hj=>by have:=(s5.blk hj).1; simp; omega)
  cases ts' with
  | nil=>cases g1
  | cons t r =>
   have g1:isS t 43=true:=g1
   simp only [List.length_cons] at hn hxn
   obtain ⟨n',rfl⟩:∃ n',n=n'+1:=⟨n-1,by omega⟩
   have pb6:PB h6 A r d 0:=pb6
   have wr:Wf r:=(w.suffix hsuf).tail
   have hpl:sumG part ts=match part r with
    | .error e=>.error e
    | .ok (y,r'')=>sumL part n' (linA x y) r'':=by
    rw [hq]
    show (if isS t 43=true then _ else _)=_
    rw [if_pos g1]
    all_goals (cases part r <;> rfl)
   refine loads_box b6 ((p,l,c),(x.num:Int),()) rfl ?_
   dsimp only [flat,unc,unc1,nA,cA]
   refine loads_box cl6.b6 (.func (.func 157) #[] #[ptr a5,ptr a3],()) rfl ?_
   dsimp only [flat,unc,unc1,nA,cA]
   refine callv_of (cap:=[ptr a5,ptr a3]) hb81 rfl (hpart h6 r cl6 pb6 wr (by omega)) ?_
   rintro _ h7 ⟨k7,y,p',l',c',ts',d',e',rfl,s7,gy,pb7,post⟩
   refine ⟨((p',l',c'),(y.num:Int),()),rfl,?_⟩
   dsimp only [flat,unc,unc1,nA,cA]
   have hz7:=k7.size
   have k07:Ch [A] h h7:=Ch.trans k06 k7 (fun j hj _=>hj)
   have cl7:=hrest h7 k07
   have b17:=b16.keep k7 (by simp; omega)
   have bx7:=b6.keep k7 (by simp; omega)
   have sx7:=s6.keep' k7 (fun j hj=>by have:=(s6.blk hj).1; simp; omega)
   have hyl:y.terms.length≤r.length:=by
    have hff:=hfine r wr
    revert post hff
    cases part r with
    | error e=>rintro ⟨_,_,hl⟩ _; exact hl
    | ok z =>
     obtain ⟨y',r''⟩:=z
     rintro ⟨_,rfl,_,_⟩ ⟨_,_,_,hl⟩
     omega
   refine ⟨⟨bx7.cells _ rfl,trivial⟩,?_⟩
   refine call_of (add_hc sx7.vwT s7.vwT sx7.vwT' s7.vwT' (by omega) gx.size gy.size) ?_
   rintro _ h10 ⟨e10,q',m',cq',rfl,s10⟩
   rw [linAdd_eq gx.nf gy.nf] at s10 ⊢
   refine ⟨((q',m',cq'),((linA x y).num:Int),()),rfl,?_⟩
   dsimp only [flat,unc,unc1,nA,cA]
   refine ⟨⟨(cl7.keep e10 (by simp)).b6.cells _ rfl,trivial⟩,?_⟩
   have hb7:=bx7.lt
   have hz07:=k07.size
   refine stores_of (bx7.keep e10 (by simp)) rfl (by simp) ?_
   intro h11 b11 k11 z11
   have b11:Box h11 h2.size 94 [.slice q' m' cq',.int .u32 ((linA x y).num:Int)]:=b11
   have k711:Ch [h2.size] h7 h11:=Ch.trans (e10.mono (by simp)) k11 (fun j hj _=>hj)
   have hal:=addM_length x.terms y.terms
   have hall:(linA x y).terms.length≤x.terms.length+y.terms.length:=hal
   have mk:∀ m,((e'=0∧d'=d∧∃ n,sumG part ts=sumL part n (linA x y) ts'∧ts'.length≤n∧ts' <:+ ts∧(linA x y).terms.length+ts'.length≤ts.length∧m=n+1)∨(e'≠0∧sumG part ts=.error e'∧(linA x y).terms.length≤ts.length∧m=0)) →
     LoopS h A h.size h2.size d ts (sumG part ts) (sumL part) m h11:=fun m hc =>
    ⟨Ch.trans k07 k711 (fun j hj hl=>by simp at hj; omega),b17.keep k711 (by simp; omega),linA x y,q',m',cq',ts',d',e',b11,(s10.keep' k11 (fun j hj=>by have:=(s10.blk hj).1; simp; omega)).mono (by omega),gx.A gy,pb7.keep k711 (by simp; omega),hc⟩
   have hff:=hfine r wr
   revert post hff
   cases hfr:part r with
   | error e =>
    rintro ⟨he,he0,_⟩ _
    refine again_mk (cs:=[]) () 0 rfl (by omega) rfl (mk 0 (.inr ⟨by omega,?_,by omega,rfl⟩))
    rw [hpl,hfr,he]
   | ok z =>
    obtain ⟨y',r''⟩:=z
    rintro ⟨he,rfl,rfl,hd'⟩ ⟨_,hs2,hl2,hn2⟩
    rw [hfr] at hpl
    exact again_mk (cs:=[]) () (n'+1) rfl (by omega) rfl (mk _ (.inl ⟨he,hd',n',hpl,by omega,(hs2.trans (List.suffix_cons _ _)).trans hsuf,by omega,rfl⟩))
 ·rw [if_neg (by rw [g1]; simp)] at pb6
  have k06:Ch [A] h h6:=Ch.trans k5 k6 (fun j hj _=>hj)
  have cl6:=hrest h6 k06
  refine loads_box cl6.b3 (some ⟨A,0,none⟩,()) rfl ?_
  dsimp only [flat,unc,unc1,nA,cA]
  refine call_of (sign79_hc pb6 45) ?_
  rintro _ h6' ⟨rfl,k6',z6',pb6'⟩
  refine ⟨(signB 0 ts' 45,()),rfl,?_⟩
  dsimp only [flat,unc,unc1,nA,cA]
  have k56:Ch [A] h5 h6':=Ch.trans k6 k6' (fun j hj _=>hj)
  refine cond_mk (fun g2=>?_) (fun g2=>?_)
  ·rw [if_pos g2] at pb6'
   have k06':Ch [A] h h6':=Ch.trans k5 k56 (fun j hj _=>hj)
   have cl6':=hrest h6' k06'
   have b16:=b15.keep k56 (by simp; omega)
   have b6:=b5.keep k56 (by simp; omega)
   have s6:=s5.keep' k56 (fun j hj=>by have:=(s5.blk hj).1; simp; omega)
   cases ts' with
   | nil=>cases g2
   | cons t r =>
    have g1:isS t 43=false:=g1
    have g2:isS t 45=true:=g2
    simp only [List.length_cons] at hn hxn
    obtain ⟨n',rfl⟩:∃ n',n=n'+1:=⟨n-1,by omega⟩
    have pb6':PB h6' A r d 0:=pb6'
    have wr:Wf r:=(w.suffix hsuf).tail
    have hpl:sumG part ts=match part r with
     | .error e=>.error e
     | .ok (y,r'')=>sumL part n' (linA x (linT y 4294967295)) r'':=by
     rw [hq]
     show (if isS t 43=true then _ else if isS t 45=true then _ else _)=_
     rw [if_neg (by rw [g1]; simp),if_pos g2]
     all_goals (cases part r <;> rfl)
    refine loads_box b6 ((p,l,c),(x.num:Int),()) rfl ?_
    dsimp only [flat,unc,unc1,nA,cA]
    refine loads_box cl6'.b6 (.func (.func 157) #[] #[ptr a5,ptr a3],()) rfl ?_
    dsimp only [flat,unc,unc1,nA,cA]
    refine callv_of (cap:=[ptr a5,ptr a3]) hb81 rfl (hpart h6' r cl6' pb6' wr (by omega)) ?_
    rintro _ h7 ⟨k7,y,p',l',c',ts',d',e',rfl,s7,gy,pb7,post⟩
    refine ⟨((p',l',c'),(y.num:Int),()),rfl,?_⟩
    dsimp only [flat,unc,unc1,nA,cA]
    have hz7:=k7.size
    have k07:Ch [A] h h7:=Ch.trans k06' k7 (fun j hj _=>hj)
    have cl7:=hrest h7 k07
    have b17:=b16.keep k7 (by simp; omega)
    have bx7:=b6.keep k7 (by simp; omega)
    have sx7:=s6.keep' k7 (fun j hj=>by have:=(s6.blk hj).1; simp; omega)
    have hyl:y.terms.length≤r.length:=by
     have hff:=hfine r wr
     revert post hff
     cases part r with
     | error e=>rintro ⟨_,_,hl⟩ _; exact hl
     | ok z =>
      obtain ⟨y',r''⟩:=z
      rintro ⟨_,rfl,_,_⟩ ⟨_,_,_,hl⟩
      omega
    refine ⟨⟨bx7.cells _ rfl,trivial⟩,?_⟩
    refine call_of (times_hc s7.vwT (by omega) gy.size 4294967295) ?_
    rintro _ h8 ⟨e8,q8,m8,c8,rfl,s8⟩
    rw [linTimes_eq gy.nf] at s8 ⊢
    refine ⟨((q8,m8,c8),((linT y 4294967295).num:Int),()),rfl,?_⟩
    dsimp only [flat,unc,unc1,nA,cA]
    have gt:=gy.T 4294967295
    have htl:(linT y 4294967295).terms.length≤y.terms.length:=timesN_length _ _
    generalize hy2:linT y 4294967295=y2 at s8 gt htl ⊢
    have hz8:=e8.size
    have bx8:=bx7.keep e8 (by simp)
    have sx8:=sx7.keep' e8 (by simp)
    refine ⟨⟨(cl7.keep e8 (by simp)).b6.cells _ rfl,bx8.cells _ rfl,trivial⟩,?_⟩
    refine call_of (add_hc sx8.vwT s8.vwT sx8.vwT' s8.vwT' (by omega) gx.size gt.size) ?_
    rintro _ h10 ⟨e10,q',m',cq',rfl,s10⟩
    rw [linAdd_eq gx.nf gt.nf] at s10 ⊢
    refine ⟨((q',m',cq'),((linA x y2).num:Int),()),rfl,?_⟩
    dsimp only [flat,unc,unc1,nA,cA]
    refine ⟨⟨((cl7.keep e8 (by simp)).keep e10 (by simp)).b6.cells _ rfl,trivial⟩,?_⟩
    have hb7:=bx7.lt
    have hz07:=k07.size
    refine stores_of (bx8.keep e10 (by simp)) rfl (by simp) ?_
    intro h11 b11 k11 z11
    have b11:Box h11 h2.size 94 [.slice q' m' cq',.int .u32 ((linA x y2).num:Int)]:=b11
    have k711:Ch [h2.size] h7 h11:=Ch.trans ((e8.trans e10).mono (by simp)) k11 (fun j hj _=>hj)
    have hall:(linA x y2).terms.length≤x.terms.length+y2.terms.length:=addM_length x.terms y2.terms
    have mk:∀ m,((e'=0∧d'=d∧∃ n,sumG part ts=sumL part n (linA x y2) ts'∧ts'.length≤n∧ts' <:+ ts∧(linA x y2).terms.length+ts'.length≤ts.length∧m=n+1)∨(e'≠0∧sumG part ts=.error e'∧(linA x y2).terms.length≤ts.length∧m=0)) →
      LoopS h A h.size h2.size d ts (sumG part ts) (sumL part) m h11:=fun m hc =>
     ⟨Ch.trans k07 k711 (fun j hj hl=>by simp at hj; omega),b17.keep k711 (by simp; omega),linA x y2,q',m',cq',ts',d',e',b11,(s10.keep' k11 (fun j hj=>by have:=(s10.blk hj).1; simp; omega)).mono (by omega),gx.A gt,pb7.keep k711 (by simp; omega),hc⟩
    have hff:=hfine r wr
    revert post hff
    cases hfr:part r with
    | error e =>
     rintro ⟨he,he0,_⟩ _
     refine again_mk (cs:=[]) () 0 rfl (by omega) rfl (mk 0 (.inr ⟨by omega,?_,by omega,rfl⟩))
     rw [hpl,hfr,he]
    | ok z =>
     obtain ⟨y',r''⟩:=z
     rintro ⟨he,rfl,rfl,hd'⟩ ⟨_,hs2,hl2,hn2⟩
     rw [hfr] at hpl
     simp only at hpl
     rw [hy2] at hpl
     exact again_mk (cs:=[]) () (n'+1) rfl (by omega) rfl (mk _ (.inl ⟨he,hd',n',hpl,by omega,(hs2.trans (List.suffix_cons _ _)).trans hsuf,by omega,rfl⟩))
  ·rw [if_neg (by rw [g2]; simp)] at pb6'
   refine out h6' k56 pb6' ?_ _
   rw [hq,sumL_stop g1 g2]
   exact ⟨rfl,rfl,rfl,rfl⟩
theorem sumD_hc (A a3 a4 a5 a6:Nat):∀ k d:Nat,d+k=32→FacC Tryz.prog 158 [ptr a6,ptr a3] A a3 a4 a5 a6 d (sumD k):=by
 intro k
 induction k with
 | zero =>
  intro d hd
  refine sum_hc (part_hc (fac:=facG none) ?_ (facG_fine (by intro f hf; cases hf))) (partG_fine (facG_fine (by intro f hf; cases hf)))
  intro h ts cl pb w hts
  exact fac_hc (o:=none) (by omega) (by show d=32; omega) (by intro f hf; cases hf) cl pb w hts
 | succ k ih =>
  intro d hd
  have hfine:∀ f,some (sumD k)=some f→∀ ts,Wf ts→Fine ts (f ts):=by
   intro f hf
   cases hf
   exact sumD_fine k
  refine sum_hc (part_hc (fac:=facG (some (sumD k))) ?_ (facG_fine hfine)) (partG_fine (facG_fine hfine))
  intro h ts cl pb w hts
  exact fac_hc (o:=some (sumD k)) (by omega) ⟨by omega,fun h ts c p w l=>ih (d+1) (by omega) h ts c p w l⟩ hfine cl pb w hts
def ParseP (h:Hp) (res:Except Nat Lin) (v:Value) (h':Hp):Prop :=
 Ext h h'∧match res with
 | .error e=>v=.tuple #[.agg #[.slice none 0 0,.int .u32 0],.int .i64 (e:Int)]
 | .ok x=>∃ p l c,v=.tuple #[linV p l c x,.int .i64 0]∧SL h' h.size 109 2 p l c (x.terms.map encT)∧Good x
theorem parse46_hc {h:Hp} {p:Option Addr} {l c:Nat} {ts:List Tok} (v:Vw h p l c ts) (hp:∀ i,i∈blkOf p→i<h.size) (w:Wf ts) (hts:ts.length≤2^40) :
  HC Tryz.prog 130 #[.slice p l c] h (ParseP h (parseX ts)):=by
 refine hcr_of (args:=[.slice p l c]) mixed Tryz.func130 (by kernel_rfl) (t_expr_Parse_eq p l c) ?_
 unfold t_expr_Parse
 refine newB ?_
 intro h1 b1 e1 z1
 refine newB ?_
 intro h2 b2 e2 z2
 refine newB ?_
 intro h3 b3 e3 z3
 refine stores_of b3 rfl (by simp) ?_
 intro h4 b4 k4 z4
 have b4:Box h4 h2.size 259 [ptr h1.size]:=b4
 refine newB ?_
 intro h5 b5 e5 z5
 refine newB ?_
 intro h6 b6 e6 z6
 refine stores_of b6 rfl (by simp) ?_
 intro h7 b7 k7 z7
 have b7:Box h7 h5.size 262 [.func (.func 152) #[] #[ptr h2.size,ptr h4.size]]:=b7
 refine newB ?_
 intro h8 b8 e8 z8
 refine stores_of b8 rfl (by simp) ?_
 intro h9 b9 k9 z9
 have b9:Box h9 h7.size 262 [.func (.func 157) #[] #[ptr h5.size,ptr h2.size]]:=b9
 have e23:Ext h2 h4:=Ch.trans e3 k4 (fun j hj hl=>by simp at hj; omega)
 have e57:Ext h4 h7:=Ch.trans (e5.trans e6) k7 (fun j hj hl=>by simp at hj; omega)
 have e79:Ext h7 h9:=Ch.trans e8 k9 (fun j hj hl=>by simp at hj; omega)
 have b5':Box h7 h4.size 262 [.nilFunc]:=(b5.keep e6 (by simp)).keep k7 (by simp; omega)
 refine stores_of (b5'.keep e79 (by simp)) rfl (by simp) ?_
 intro h10 b10 k10 z10
 have b10:Box h10 h4.size 262 [.func (.func 158) #[] #[ptr h7.size,ptr h2.size]]:=b10
 have e49:Ext h4 h9:=e57.trans e79
 have k210:Ch [] h2 h10:=Ch.trans (e23.trans e49) k10 (fun j hj hl=>by simp at hj; omega)
 have e010:Ext h h10:=(e1.trans e2).trans k210
 have cl:Cl h10 h1.size h2.size h4.size h5.size h7.size:=⟨(b4.keep e49 (by simp)).keep k10 (by simp; omega),b10,((b7.keep e79 (by simp))).keep k10 (by simp; omega),b9.keep k10 (by simp; omega),by omega,by omega,by omega,by omega⟩
 have pb:PB h10 h1.size ts ((0:Nat):Int) 0:=⟨p,l,c,b2.keep k210 (by simp),v.keep e010 (by simp),fun i hi=>by have:=hp i hi; omega⟩
 have br:=(b1.keep e2 (by simp)).keep k210 (by simp)
 refine loads_box cl.b4 (.func (.func 158) #[] #[ptr h7.size,ptr h2.size],()) rfl ?_
 dsimp only [flat,unc,unc1,nA,cA]
 refine callv_of (cap:=[ptr h7.size,ptr h2.size]) hb29 rfl (sumD_hc h1.size h2.size h4.size h5.size h7.size 32 0 rfl h10 ts cl pb w hts) ?_
 rintro _ h11 ⟨k11,x,p',l',c',ts',d',e',rfl,s11,gx,pb11,post⟩
 refine ⟨((p',l',c'),(x.num:Int),()),rfl,?_⟩
 dsimp only [flat,unc,unc1,nA,cA]
 have hz11:=k11.size
 have hz10:=e010.size
 refine newB ?_
 intro h12 b12 e12 z12
 refine stores_of b12 rfl (by simp) ?_
 intro h13 b13 k13 z13
 have b13:Box h13 h11.size 94 [.slice p' l' c',.int .u32 (x.num:Int)]:=b13
 have e1113:Ext h11 h13:=Ch.trans e12 k13 (fun j hj hl=>by simp at hj; omega)
 have k1013:Ch [h1.size] h10 h13:=Ch.trans k11 e1113 (by simp)
 have cl13:=cl.keep k1013 (by simp)
 have pb13:=pb11.keep e1113 (by simp)
 have br13:=br.keep k1013 (by simp; omega)
 have e013:Ext h h13:=Ch.trans e010 k1013 (fun j hj hl=>by simp at hj; omega)
 have s13:=s11.keep' e1113 (by simp)
 refine loads_box cl13.b3 (some ⟨h1.size,0,none⟩,()) rfl ?_
 dsimp only [flat,unc,unc1,nA,cA]
 have tail:∀ (hx:Hp) (e0:Nat) (ts'':List Tok),Ch [h1.size] h13 hx→PB hx h1.size ts'' d' e0→(e0≠0→parseX ts=.error e0)→(e0=0→parseX ts=.ok x)→∀ L,(T.loads ⟨h2.size,0,none⟩ [.pointer 261] fun (p18:Option Addr) =>
   T.osome p18 <| fun (a19:Addr) =>
   T.loads (a19.add 2) [.int .i64] <| fun (n20:Int) =>
   cond (n20 != (0:Int))
    (T.loads ⟨h2.size,0,none⟩ [.pointer 261] <| fun (p21:Option Addr) =>
    T.osome p21 <| fun (a22:Addr) =>
    T.loads (a22.add 2) [.int .i64] <| fun (n23:Int) =>
    T.stores ⟨h.size,0,none⟩ [.slice none 0 0,.int .u32 (0:Int)] <|
    T.stable [((a22.add 2),[.int .i64 n23]),(⟨h2.size,0,none⟩,[.pointer p21])] <|
    T.loads ⟨h.size,0,none⟩ [.slice 109,.int .u32] <| fun (p24:Option Addr) (l25:Nat) (l26:Nat) (n27:Int) =>
    T.ret (.tuple #[.agg #[.slice p24 l25 l26,.int .u32 n27],.int .i64 n23]))
    (T.loads ⟨h11.size,0,none⟩ [.slice 109,.int .u32] <| fun (p21:Option Addr) (l22:Nat) (l23:Nat) (n24:Int) =>
    T.stores ⟨h.size,0,none⟩ [.slice p21 l22 l23,.int .u32 n24] <|
    T.loads ⟨h.size,0,none⟩ [.slice 109,.int .u32] <| fun (p25:Option Addr) (l26:Nat) (l27:Nat) (n28:Int) =>
    T.ret (.tuple #[.agg #[.slice p25 l26 l27,.int .u32 n28],.int .i64 (0:Int)]))) L (ParseP h (parseX ts)) hx:=by
  intro hx e0 ts'' kx pbx hp1 hp2 L
  have clx:=cl13.keep kx (by simp)
  have brx:=br13.keep kx (by simp; omega)
  have hzx:=kx.size
  have e0x:Ext h hx:=Ch.trans e013 kx (fun j hj hl=>by simp at hj; omega)
  obtain ⟨q,m,cq,bQ,vq,hq⟩:=pbx
  refine loads_box clx.b3 (some ⟨h1.size,0,none⟩,()) rfl ?_
  dsimp only [flat,unc,unc1,nA,cA]
  refine osome_mk rfl ?_
  rw [add_box]
  refine loads_box bQ ((e0:Int),()) rfl ?_
  dsimp only [flat,unc,unc1,nA,cA]
  refine cond_mk (fun g=>?_) (fun g=>?_)
  ·have g:¬ e0=0:=by simpa using g
   refine loads_box clx.b3 (some ⟨h1.size,0,none⟩,()) rfl ?_
   dsimp only [flat,unc,unc1,nA,cA]
   refine osome_mk rfl ?_
   rw [add_box]
   refine loads_box bQ ((e0:Int),()) rfl ?_
   dsimp only [flat,unc,unc1,nA,cA]
   refine stores_of brx rfl (by simp) ?_
   intro hy by' ky zy
   have by':Box hy h.size 94 [.slice none 0 0,.int .u32 0]:=by'
   refine ⟨⟨(bQ.keep ky (by simp; omega)).cells _ rfl,(clx.b3.keep ky (by simp; omega)).cells _ rfl,trivial⟩,?_⟩
   refine loads_box by' ((none,0,0),(0:Int),()) rfl ?_
   refine ⟨Ch.trans e0x ky (fun j hj hl=>by simp at hj; omega),?_⟩
   rw [hp1 g]
  ·have g:e0=0:=by simpa using g
   refine loads_box (b13.keep kx (by simp; omega)) ((p',l',c'),(x.num:Int),()) rfl ?_
   dsimp only [flat,unc,unc1,nA,cA]
   refine stores_of brx rfl (by simp) ?_
   intro hy by' ky zy
   have by':Box hy h.size 94 [.slice p' l' c',.int .u32 (x.num:Int)]:=by'
   refine loads_box by' ((p',l',c'),(x.num:Int),()) rfl ?_
   refine ⟨Ch.trans e0x ky (fun j hj hl=>by simp at hj; omega),?_⟩
   rw [hp2 g]
   have sx:=s13.keep' kx (fun j hj=>by have:=(s13.blk hj).1; simp; omega)
   exact ⟨p',l',c',rfl,(sx.keep' ky (fun j hj=>by have:=(sx.blk hj).1; simp; omega)).mono (by omega),gx⟩
 obtain ⟨q,m,cq,bQ,vq,hq⟩:=pb13
 have pb13:PB h13 h1.size ts' d' e':=⟨q,m,cq,bQ,vq,hq⟩
 refine osome_mk rfl ?_
 refine loads_box bQ ((q,m,cq),()) rfl ?_
 dsimp only [flat,unc,unc1,nA,cA]
 have hm:=vq.len
 have hpx:parseX ts=match sumD 32 ts with
  | .error e=>.error e
  | .ok (x,r)=>if r=[] then .ok x else .error 20:=rfl
 refine cond_mk (fun g=>?_) (fun g=>?_)
 ·have g:=of_decide_eq_true g
  refine loads_box cl13.b3 (some ⟨h1.size,0,none⟩,()) rfl ?_
  dsimp only [flat,unc,unc1,nA,cA]
  refine call_of (refuse80_hc pb13 20) ?_
  rintro _ h14 ⟨rfl,k14,z14,pb14⟩
  refine ⟨(),rfl,?_⟩
  dsimp only [flat,unc,unc1,nA,cA]
  refine tail h14 _ ts' k14 pb14 ?_ ?_ _
  ·intro hne
   revert post hpx
   cases sumD 32 ts with
   | error e =>
    rintro ⟨he,he0,_⟩ hpx
    rw [hpx,he,if_neg he0]
   | ok z =>
    obtain ⟨y,r⟩:=z
    rintro ⟨he,_,hr,_⟩ hpx
    rw [hpx,he]
    simp only
    rw [if_neg (by rw [← hr]; intro hh; rw [hh] at hm; simp at hm; omega)]
    rfl
  ·intro h0
   exfalso
   split at h0 <;> omega
 ·have g:=of_decide_eq_false g
  have hts':ts'=[]:=List.length_eq_zero_iff.1 (by omega)
  refine tail h13 e' ts' (Ch.refl _ _) pb13 ?_ ?_ _
  ·intro hne
   revert post hpx
   cases sumD 32 ts with
   | error e =>
    rintro ⟨he,he0,_⟩ hpx
    rw [hpx,he]
   | ok z =>
    obtain ⟨y,r⟩:=z
    rintro ⟨he,_,hr,_⟩ hpx
    exact absurd he hne
  ·intro h0
   revert post hpx
   cases sumD 32 ts with
   | error e =>
    rintro ⟨he,he0,_⟩ hpx
    exact absurd (he.symm.trans h0) he0
   | ok z =>
    obtain ⟨y,r⟩:=z
    rintro ⟨he,hx,hr,_⟩ hpx
    rw [hpx,← hr,hts',hx]
    rfl
theorem encT_cells {h:Hp} {b:Addr} {t:ByteArray × Nat} (hc:cellsAt h b 0 (encT t)):cellsAt h b 0 [.string t.1]∧cellsAt h (b.add 1) 0 [.int .u32 (t.2:Int)]:=by
 obtain ⟨h1,h2,h3⟩:=hc
 exact ⟨⟨h1,trivial⟩,⟨by rw [add_add]; exact h2,trivial⟩⟩
def RB (h:Hp) (A:Nat) (us:List Tok) (k:Nat) (d:Int) (e:Nat):Prop :=
 ∃ p l c,Box h A 292 [.slice p l c,.int .i64 (k:Int),.int .i64 d,.int .i64 (e:Int)]∧Vw h p l c us∧(∀ i,i∈blkOf p→i<A)∧k≤us.length∧us.length≤2^40
theorem RB.keep {ws:List Nat} {h h':Hp} {A k:Nat} {us:List Tok} {d:Int} {e:Nat} (b:RB h A us k d e) (c:Ch ws h h') (hw:∀ i,i∈ws→A<i):RB h' A us k d e:=by
 obtain ⟨p,l,cc,b,v,hp,hk⟩:=b
 exact ⟨p,l,cc,b.keep c (fun hm=>by have:=hw _ hm; omega),v.keep c (fun i hi hm=>by have:=hw _ hm; have:=hp _ hi; omega),hp,hk⟩
theorem RB.lt {h:Hp} {A k:Nat} {us:List Tok} {d:Int} {e:Nat} (b:RB h A us k d e):A<h.size:=by
 obtain ⟨p,l,cc,b,v,hp,hk⟩:=b
 exact b.lt
theorem leB (a b:ByteArray):(Op.bytesLess (ByteArray.toList a) (ByteArray.toList b) || (ByteArray.toList a==ByteArray.toList b))=!decide (ltN b a):=by
 rw [ByteArray.toList_eq,ByteArray.toList_eq,Proofs.bytesLess_eq]
 by_cases h:ltN b a
 ·rw [decide_eq_true h]
  have h1:¬ a.data.toList<b.data.toList:=ltN_asymm h
  have h2:¬ a.data.toList=b.data.toList:=fun e=>ltN_ne h (ba_ext e).symm
  have h3:¬ a.data=b.data:=fun e=>h2 (by rw [e])
  simp [h1,h3]
 ·rw [decide_eq_false h]
  by_cases h1:ltN a b
  ·have h1:a.data.toList<b.data.toList:=h1
   simp [h1]
  ·have:=ltN_tri a b h1 h
   subst this
   simp
def rtR:Option ByteArray→Tms→Bool
 | _,[]=>true
 | o,t::r=>legalL t.1.data.toList && decide (t.2≠0) && (match o with
  | none=>true
  | some s=>decide (ltN s t.1)) && rtR (some t.1) r
def pvN (l:Tms) (i:Nat):Option ByteArray:=if i=0 then none else (l[i-1]?).map (·.1)
theorem rtR_of {o:Option ByteArray} {l:Tms} (h1:∀ t,t∈l→legalL t.1.data.toList=true∧t.2≠0) (h2:l.Pairwise fun p q=>ltN p.1 q.1) (h3:∀ s,o=some s→∀ t,t∈l→ltN s t.1):rtR o l=true:=by
 induction l generalizing o with
 | nil=>rfl
 | cons t r ih =>
  obtain ⟨a,b⟩:=h1 t (List.mem_cons_self ..)
  obtain ⟨c,d⟩:=List.pairwise_cons.1 h2
  unfold rtR
  rw [a,decide_eq_true b,ih (o:=some t.1) (fun u hu=>h1 u (List.mem_cons_of_mem _ hu)) d (by rintro s ⟨⟩ u hu; exact c u hu)]
  cases o with
  | none=>rfl
  | some s =>
   show (true && true && decide (ltN s t.1) && true)=true
   rw [decide_eq_true (h3 s rfl t (List.mem_cons_self ..))]
   rfl
theorem good_rt {x:Lin} (h:Good x):rtR none x.terms=true:=rtR_of (fun t ht=>⟨h.legal t ht,(h.nf.2 t ht).1⟩) h.nf.1 (by simp)
theorem right63_hc {h : Hp} {p : Option Addr} {l c : Nat} {x : Lin} (v : VwT h p l x.terms) (hl : x.terms.length ≤ 9223372036854775807) (hs : ∀ t, t ∈ x.terms → t.1.size ≤ maxLen) :
    HC Tryz.prog 46 #[linV p l c x] h fun w h' => w = .bool (rtR none x.terms) ∧ Ext h h' := by
  refine hcr_of (args := [.agg #[.slice p l c, .int .u32 x.num]]) mixed Tryz.func46 (by kernel_rfl) (t_expr_Right_eq p l c x.num) ?_
  unfold t_expr_Right
  have hll := v.len
  refine newB ?_
  intro h1 b1 e1 z1
  refine loads_box b1 ((p, l, c), ()) rfl ?_
  dsimp only [flat, unc, unc1, nA, cA]
  refine loop_of (cs := [(false, [.bool]), (false, [.int .i64])]) (fun y w h' => ∃ (i : Nat), y.2.1 = (i : Int) ∧ i ≤ x.terms.length ∧ w = x.terms.length - i ∧ Ext h1 h' ∧ rtR none x.terms = rtR (pvN x.terms i) (x.terms.drop i)) (false, (0 : Int), ()) x.terms.length rfl
    ⟨0, rfl, by omega, by omega, Ch.refl _ _, rfl⟩ ?_
  rintro ⟨b8, n8, ⟨⟩⟩ w h2 ⟨i, hi, hile, rfl, e2, hq⟩
  simp only at hi
  subst hi
  dsimp only [flat, unc, unc1, nA, cA]
  have e02 := e1.trans e2
  refine cond_mk (fun g1 => ?_) (fun g1 => ?_)
  · have g1 := of_decide_eq_true g1
    have hilt : i < x.terms.length := by omega
    have v2 := v.keep e02 (by simp)
    obtain ⟨a, rfl, hc⟩ := v2.cells i hilt
    have hdr : x.terms.drop i = x.terms[i] :: x.terms.drop (i + 1) := List.drop_eq_getElem_cons hilt
    have hpv : pvN x.terms (i + 1) = some x.terms[i].1 := by
      unfold pvN
      rw [if_neg (by omega), Nat.add_sub_cancel, List.getElem?_eq_getElem hilt]
      rfl
    have hsz := hs x.terms[i] (List.getElem_mem hilt)
    rw [hdr] at hq
    generalize x.terms[i] = t at hc hq hpv hsz
    refine need_of ⟨by omega, by omega⟩ (osome_mk rfl ?_)
    rw [show Int.toNat (i : Int) = i by omega]
    refine loads_of (t.1, (t.2 : Int), ()) hc ?_
    dsimp only [flat, unc, unc1, nA, cA]
    refine newB ?_
    intro h3 b3 e3 z3
    refine stores_of b3 rfl (by simp) ?_
    intro h4 b4 k4 z4
    have b4 : Box h4 h2.size 109 [.string t.1, .int .u32 t.2] := b4
    have e24 : Ext h2 h4 := Ch.trans e3 k4 (fun j hj hl => by simp at hj; omega)
    have e04 := e02.trans e24
    rw [add_box]
    refine loads_box b4 ((t.2 : Int), ()) rfl ?_
    dsimp only [flat, unc, unc1, nA, cA]
    refine cond_mk (fun g2 => ?_) (fun g2 => ?_)
    · have g2 : t.2 = 0 := by have : (t.2 : Int) = 0 := by simpa using g2
                              omega
      refine ⟨?_, e04⟩
      rw [hq]
      unfold rtR
      rw [decide_eq_false (by omega)]
      simp
    · have g2 : t.2 ≠ 0 := by have : ¬ (t.2 : Int) = 0 := by simpa using g2
                              omega
      refine loads_box b4 (t.1, ()) rfl ?_
      dsimp only [flat, unc, unc1, nA, cA]
      refine call_bool (legal_hc t.1 h4 (by have : maxLen = 9223372036854775807 := rfl; omega)) ?_
      refine ⟨⟨b4.cells _ rfl, trivial⟩, ?_⟩
      refine cond_mk (fun g3 => ?_) (fun g3 => ?_)
      · have g3 : legalL t.1.data.toList = false := by simpa using g3
        refine ⟨?_, e04⟩
        rw [hq]
        unfold rtR
        rw [g3]
        simp
      · have g3 : legalL t.1.data.toList = true := by simpa using g3
        have hw : IntKind.wrap .i64 ((i : Int) + 1) = ((i + 1 : Nat) : Int) := by rw [wrap_i64 (by omega) (by omega)]; omega
        have hgo : (match pvN x.terms i with
            | none => true
            | some s => decide (ltN s t.1)) = true → rtR none x.terms = rtR (pvN x.terms (i + 1)) (x.terms.drop (i + 1)) := by
          intro hm
          rw [hq, hpv]
          conv => lhs; unfold rtR
          rw [g3, decide_eq_true g2, hm]
          rfl
        refine cond_mk (fun g4 => ?_) (fun g4 => ?_)
        · have g4 := of_decide_eq_true g4
          have hw1 : IntKind.wrap .i64 ((i : Int) - 1) = ((i - 1 : Nat) : Int) := by rw [wrap_i64 (by omega) (by omega)]; omega
          have hi1 : i - 1 < x.terms.length := by omega
          obtain ⟨a', ha', hc'⟩ := (v.keep e04 (by simp)).cells (i - 1) hi1
          cases ha'
          have hpi : pvN x.terms i = some x.terms[i - 1].1 := by
            unfold pvN
            rw [if_neg (by omega), List.getElem?_eq_getElem hi1]
            rfl
          rw [hpi] at hgo hq
          generalize x.terms[i - 1] = u at hc' hpi hgo hq
          refine loads_box b4 (t.1, ()) rfl ?_
          dsimp only [flat, unc, unc1, nA, cA]
          refine loads_box ((b1.keep e2 (by simp)).keep e24 (by simp)) ((some a, l, c), ()) rfl ?_
          dsimp only [flat, unc, unc1, nA, cA]
          rw [hw1]
          refine need_of ⟨by omega, by omega⟩ (osome_mk rfl ?_)
          rw [show Int.toNat ((i - 1 : Nat) : Int) = i - 1 by omega]
          refine loads_of (u.1, ()) (encT_cells hc').1 ?_
          dsimp only [flat, unc, unc1, nA, cA]
          rw [leB]
          refine cond_mk (fun g5 => ?_) (fun g5 => ?_)
          · have g5 : ¬ ltN u.1 t.1 := by simpa using g5
            refine ⟨?_, e04⟩
            rw [hq]
            unfold rtR
            dsimp only
            rw [decide_eq_false g5]
            simp
          · have g5 : ltN u.1 t.1 := by simpa using g5
            exact again_mk (cs := [(false, [.bool]), (false, [.int .i64])]) (b8, ((i + 1 : Nat) : Int), ()) (x.terms.length - (i + 1)) rfl (by omega) (congrArg (fun z => [Value.bool b8, Value.int .i64 z]) hw) ⟨i + 1, rfl, by omega, rfl, e2.trans e24, hgo (decide_eq_true g5)⟩
        · have g4 := of_decide_eq_false g4
          have hi0 : i = 0 := by omega
          subst hi0
          exact again_mk (cs := [(false, [.bool]), (false, [.int .i64])]) (b8, ((0 + 1 : Nat) : Int), ()) (x.terms.length - (0 + 1)) rfl (by omega) (congrArg (fun z => [Value.bool b8, Value.int .i64 z]) hw) ⟨0 + 1, rfl, by omega, rfl, e2.trans e24, hgo rfl⟩
  · have g1 := of_decide_eq_false g1
    have hi : i = x.terms.length := by omega
    subst hi
    refine ⟨?_, e02⟩
    rw [hq, List.drop_length]
    rfl
end Go.Sx
set_option linter.unusedVariables false
set_option maxRecDepth 100000
namespace Go.Sx.Ob
abbrev Bt:=List UInt8
def numB:Bt→Nat
 | []=>0
 | b::l=>b.toNat+256*numB l
/-! Readers: what is read,and what is behind it; or a refusal: how many bytes are behind its place,and why. -/
abbrev Rd (α:Type):=Except (Nat × Nat) (α × Bt)
def andR {α β:Type} (a:Rd α) (f:α→Bt→Rd β):Rd β :=
 match a with
 | .ok p=>f p.1 p.2
 | .error e=>.error e
@[simp] theorem andR_okk {α β:Type} (x:α) (r:Bt) (f:α→Bt→Rd β):andR (.ok (x,r)) f=f x r:=rfl
def numR (w:Nat) (r:Bt):Rd Nat:=if w≤r.length then .ok (numB (r.take w),r.drop w) else .error (0,10)
def textR (r:Bt):Rd ByteArray:=andR (numR 2 r) fun n r=>if n≤r.length then .ok (⟨(r.take n).toArray⟩,r.drop n) else .error (0,10)
def termsR:Nat→Bt→Rd Tms
 | 0,r=>.ok ([],r)
 | n+1,r=>andR (textR r) fun s r=>andR (numR 4 r) fun c r=>andR (termsR n r) fun ts r=>.ok ((s,c)::ts,r)
/-! Writers. -/
structure Ins where
 op:Int
 a:Int
 b:Int
 n:Int
 form:Int
deriving DecidableEq
structure Itm where
 kind:Int
 name:ByteArray
 inst:Ins
 e:Lin
 n:Int
def ins0:Ins:=⟨0,0,0,0,0⟩
def lin0:Lin:=⟨[],0⟩
def nam0:ByteArray:=⟨#[]⟩
def itm (k:Int):Itm:=⟨k,nam0,ins0,lin0,0⟩
def shpL:List Nat:=[1,1,1,2,2,2,2,2,2,2,3,3,4,4,4,4,4,4,4,4,4,4,4,4,4,4,4,4,5,5,5,5,6,6,7,8,9,10,11,12,12,13,13]
def shp (op:Int):Nat:=if op<1 then 0 else shpL.getD (op-1).toNat 0
def blw (n m:Int):Bool:=decide (0≤n) && decide (n<m)
def regsR (s:Nat) (a b n:Int):Bool :=
 if s=1∨s=9∨s=12 then decide (a=0) && decide (b=0)
 else if s=2∨s=8∨s=10∨s=11∨s=13 then blw a 8 && decide (b=0)
 else if s=3 then blw a 4 && decide (b=0)
 else if s=4 then blw a 8 && blw b 8
 else if s=5 then blw a 4 && blw b 4
 else if s=6 then blw a 8 && blw b 4
 else blw a 4 && blw b 8 && blw n 8
def nReach (n form:Int):Bool :=
 if form=1 then decide (-128≤n) && decide (n≤127)
 else if form=2 then decide (-32768≤n) && decide (n≤32767)
 else decide (form=4)
def nR (s:Nat) (n form:Int):Bool :=
 if s=8 then nReach n 1
 else if s=9 then decide (0≤n) && decide (n≤255)
 else if s=10∨s=7 then true
 else if s=11 then decide (0≤n) && decide (n≤4095)
 else if s=12∨s=13 then nReach n form
 else decide (n=0)
def spn (op:Int):Bool:=decide (12≤shp op)
def wnt (op:Int):Bool:=decide (10≤shp op)
def chkR (i:Ins):Int :=
 if shp i.op=0 then 11
 else if regsR (shp i.op) i.a i.b i.n=false then 12
 else if (!spn i.op && decide (i.form≠0) || !nR (shp i.op) i.n i.form)=true then 13
 else 0
def isZ (x:Lin):Bool:=decide (x.terms=[]) && decide (x.num=0)
def insR (i:Ins) (e:Lin):Bool :=
 decide (shp i.op≠0) && decide (i.form=0) && (if wnt i.op then decide (i.n=0) && decide (chkR { i with form:=if spn i.op then 1 else 0 }=0) && rtR none e.terms
  else decide (chkR i=0) && isZ e)
def pow2 (n:Int):Bool:=decide (n=1) || decide (n=2) || decide (n=4) || decide (n=8) || decide (n=16) || decide (n=32) || decide (n=64) || decide (n=128) || decide (n=256)
def z1 (x:Itm):Bool:=decide (x.name=nam0)
def z2 (x:Itm):Bool:=decide (x.inst=ins0)
def z3 (x:Itm):Bool:=isZ x.e
def z4 (x:Itm):Bool:=decide (x.n=0)
def itmR (x:Itm) (sec:Nat):Bool :=
 if x.kind=1 then legalL x.name.data.toList && z2 x && z3 x && z4 x
 else if x.kind=2 then decide (sec=0) && insR x.inst x.e && z1 x && z4 x
 else if x.kind=3 then pow2 x.n && z1 x && z2 x && z3 x
 else if x.kind=4 then decide (sec=0) && z1 x && z2 x && z3 x && z4 x
 else if x.kind=5 then decide (sec=1) && decide (-128≤x.n) && decide (x.n≤255) && z1 x && z2 x && z3 x
 else if x.kind=6 then decide (sec=1) && rtR none x.e.terms && z1 x && z2 x && z4 x
 else if x.kind=7 then decide (sec=1) && decide (0≤x.n) && decide (x.n≤1048576) && z1 x && z2 x && z3 x
 else false
/-! Bytes. -/
def u32 (n:Int):Nat:=(n % 4294967296).toNat
def s32 (n:Nat):Int:=if n<2147483648 then (n:Int) else (n:Int)-4294967296
def s16 (n:Nat):Int:=if n<32768 then (n:Int) else (n:Int)-65536
def at_ {α:Type} (r:Bt) (why:Nat) (ok:α→Bool) (a:Rd α):Rd α:=andR a fun x r'=>if ok x then .ok (x,r') else .error (r.length,why)
def inN (D:List ByteArray) (s:ByteArray):Bool:=D.any fun t=>decide (t=s)
def itmOk (sec:Nat) (D:List ByteArray) (x:Itm):Bool:=itmR x sec && !(decide (x.kind=1) && inN D x.name)
def addN (D:List ByteArray) (x:Itm):List ByteArray:=if x.kind=1 then x.name::D else D
theorem isZ0:isZ lin0=true:=rfl
theorem shp_le (op:Int) (h:shp op≠0):1≤op∧op≤43:=by
 unfold shp at h
 split at h
 ·exact absurd rfl h
 ·refine ⟨by omega,?_⟩
  by_cases g:op≤43
  ·exact g
  ·exfalso
   apply h
   rw [List.getD_eq_getElem?_getD,List.getElem?_eq_none (by simp [shpL]; omega)]
   rfl
theorem shp_cases (op:Int):shp op=0∨(1≤shp op∧shp op≤13):=by
 by_cases h:shp op=0
 ·exact .inl h
 ·right
  have h1:=shp_le op h
  unfold shp
  rw [if_neg (by omega)]
  have h2:(op-1).toNat<43:=by omega
  generalize (op-1).toNat=k at h2
  have:∀ k:Fin 43,1≤shpL.getD k.1 0∧shpL.getD k.1 0≤13:=by decide
  exact this ⟨k,h2⟩
abbrev Eqn:=ByteArray × Lin
structure Unt where
 text:List Itm
 data:List Itm
 equs:List Eqn
 globs:List ByteArray
def unt0:Unt:=⟨[],[],[],[]⟩
def equOk (D:List ByteArray) (p:Eqn):Bool:=!(inN D p.1) && legalL p.1.data.toList && rtR none p.2.terms
def gOk (D:List ByteArray) (last g:ByteArray):Bool:=inN D g && decide (ltN last g)
def over:Option Nat→Nat→Bool
 | none,_=>false
 | some m,n=>decide (m<n)
def cntR {α:Type} (most:Option Nat) (f:Nat→Bt→Rd α) (r:Bt):Rd α:=andR (numR 2 r) fun n r1=>if over most n then .error (r.length,4) else f n r1
def namesI (D:List ByteArray) (l:List Itm):List ByteArray:=l.foldl addN D
def namesE (D:List ByteArray) (l:List Eqn):List ByteArray:=l.foldl (fun D p=>p.1::D) D
/-! Right units. -/
def itemsOk (sec:Nat):List ByteArray→List Itm→Bool
 | _,[]=>true
 | D,x::l=>itmOk sec D x && itemsOk sec (addN D x) l
def equsOk:List ByteArray→List Eqn→Bool
 | _,[]=>true
 | D,x::l=>equOk D x && equsOk (x.1::D) l
def globsOk (D:List ByteArray):ByteArray→List ByteArray→Bool
 | _,[]=>true
 | last,x::l=>gOk D last x && globsOk D x l
def Unt.names (u:Unt):List ByteArray:=namesE (namesI (namesI [] u.text) u.data) u.equs
def untOk (u:Unt):Bool:=itemsOk 0 [] u.text && itemsOk 1 (namesI [] u.text) u.data && equsOk (namesI (namesI [] u.text) u.data) u.equs && globsOk u.names nam0 u.globs
def untMany (u:Unt):Bool:=decide (8192<u.text.length+u.data.length) || decide (8192<u.equs.length)
def untR (u:Unt):Nat:=if untMany u then 4 else if untOk u then 0 else 31
end Go.Sx.Ob
set_option linter.unusedVariables false
set_option linter.unusedSimpArgs false
set_option maxRecDepth 100000
namespace Go.Sx
open Go.Proofs
theorem trm80:Tryz.prog.underlying 109=some (.struct (flds Tryz.prog 109)):=by kernel_rfl
theorem cmpTrm (x y:Operand) (a:ByteArray) (b:Int) (a':ByteArray) (b':Int) (h:Hp) (K:Value→Hp→Prop) (hk:K (.bool !(a==a' && b==b')) h) :
  semW Tryz.prog (Sx.cmpS (BinOp.neq) 109 x y (.agg #[.string a,.int .u32 b]) (.agg #[.string a',.int .u32 b'])) h K:=by
 refine cmpS_neq trm80 (by kernel_rfl) (by kernel_rfl) (by kernel_rfl) K ?_
 have he:(flds Tryz.prog 109).all (eqF #[.string a,.int .u32 b] #[.string a',.int .u32 b'])=(a==a' && (b==b' && true)):=by
  rw [← Array.all_toList]
  kernel_rfl
 rw [he,Bool.and_true]
 exact hk
theorem trm_ne (t u:ByteArray × Nat):(!(t.1==u.1 && (t.2:Int)==(u.2:Int)))=decide (t≠u):=by
 obtain ⟨a,b⟩:=t
 obtain ⟨a',b'⟩:=u
 by_cases h1:a=a'
 ·subst h1
  rw [bytes_beq]
  by_cases h2:b=b'
  ·subst h2
   simp
  ·have h3:¬ ((b:Int)=(b':Int)):=by omega
   have h4:((b:Int)==(b':Int))=false:=by simpa using h3
   simp [h2,h4]
 ·have h3:(a==a')=false:=by
   obtain ⟨d⟩:=a
   obtain ⟨d'⟩:=a'
   show (d==d')=false
   have h4:¬ d=d':=fun e=>h1 (by rw [e])
   simpa using h4
  simp [h1,h3]
theorem ne_of_drop {α:Type} {l m:List α} {i:Nat} (hi:i<l.length) (hj:i<m.length) (h:l[i]≠m[i]):l≠m:=by
 rintro rfl
 exact h rfl
theorem drop_eq_step {α:Type} {l m:List α} {i:Nat} (hi:i<l.length) (hj:i<m.length) (h:l[i]=m[i]):(l.drop i=m.drop i)↔(l.drop (i+1)=m.drop (i+1)):=by
 rw [List.drop_eq_getElem_cons hi,List.drop_eq_getElem_cons hj,h]
 exact ⟨fun e=>(List.cons.inj e).2,fun e=>by rw [e]⟩
instance:DecidableEq Tms:=inferInstance
theorem equal90_hc {h:Hp} {p q:Option Addr} {l m c d:Nat} {us vs:Tms} (v:VwT h p l us) (w:VwT h q m vs) (hl:us.length≤2^60):HCp Tryz.prog 117 [.slice p l c,.slice q m d] h (.bool (decide (us=vs))):=by
 refine hcp_of mixed Tryz.func117 (by kernel_rfl) (t_slices_Equal___api_Term_api_Term__eq p l c q m d) ?_
 unfold t_slices_Equal___api_Term_api_Term_
 have h1:=v.len
 have h2:=w.len
 refine cond_mk (fun g1=>?_) (fun g1=>?_)
 ·have g1:¬ (l:Int)=(m:Int):=by simpa using g1
  exact ⟨by rw [decide_eq_false (fun e=>by rw [e] at h1; omega)],rfl⟩
 ·have g1:(l:Int)=(m:Int):=by simpa using g1
  refine loop_of (cs:=[(false,[.bool]),(false,[.int .i64])]) (fun y n h'=>∃ (i:Nat),y.2.1=(i:Int)∧i≤us.length∧n=us.length-i∧h=h'∧(us=vs↔us.drop i=vs.drop i)) (false,(0:Int),()) us.length rfl
   ⟨0,rfl,by omega,by omega,rfl,Iff.rfl⟩ ?_
  rintro ⟨b8,n8,⟨⟩⟩ n h2 ⟨i,hi,hile,rfl,rfl,hq⟩
  simp only at hi
  subst hi
  dsimp only [flat,unc,unc1,nA,cA]
  refine cond_mk (fun g2=>?_) (fun g2=>?_)
  ·have g2:=of_decide_eq_true g2
   have hi1:i<us.length:=by omega
   have hi2:i<vs.length:=by omega
   obtain ⟨a,rfl,hc⟩:=v.cells i hi1
   obtain ⟨a',rfl,hc'⟩:=w.cells i hi2
   have hst:=drop_eq_step hi1 hi2
   have hno:=ne_of_drop hi1 hi2
   generalize us[i]=t at hc hst hno
   generalize vs[i]=u at hc' hst hno
   refine need_of ⟨by omega,by omega⟩ (osome_mk rfl ?_)
   rw [show Int.toNat (i:Int)=i by omega]
   refine loads_of (t.1,(t.2:Int),()) hc ?_
   dsimp only [flat,unc,unc1,nA,cA]
   refine need_of ⟨by omega,by omega⟩ (osome_mk rfl ?_)
   refine loads_of (u.1,(u.2:Int),()) hc' ?_
   dsimp only [flat,unc,unc1,nA,cA]
   refine sem_bool (b:=decide (t≠u)) (fun K' hk=>cmpTrm _ _ _ _ _ _ _ _ (by rw [trm_ne]; exact hk)) ?_
   refine cond_mk (fun g3=>?_) (fun g3=>?_)
   ·exact ⟨by rw [decide_eq_false (hno (of_decide_eq_true g3))],rfl⟩
   ·have g3:t=u:=by simpa using g3
    have hw:IntKind.wrap .i64 ((i:Int)+1)=((i+1:Nat):Int):=by rw [wrap_i64 (by omega) (by omega)]; omega
    exact again_mk (cs:=[(false,[.bool]),(false,[.int .i64])]) (b8,((i+1:Nat):Int),()) (us.length-(i+1)) rfl (by omega) (congrArg (fun z=>[Value.bool b8,Value.int .i64 z]) hw) ⟨i+1,rfl,by omega,rfl,rfl,hq.trans (hst g3)⟩
  ·have g2:=of_decide_eq_false g2
   refine ⟨?_,rfl⟩
   rw [decide_eq_true (hq.2 (by rw [List.drop_eq_nil_of_le (by omega),List.drop_eq_nil_of_le (by omega)]))]
def linB (x y:Lin):Bool:=decide (x.num=y.num) && decide (x.terms=y.terms)
theorem linB_refl (x:Lin):linB x x=true:=by unfold linB; simp
theorem same64_hc {h : Hp} {p q : Option Addr} {l m c d : Nat} {x y : Lin} (v : VwT h p l x.terms) (w : VwT h q m y.terms) (hl : x.terms.length ≤ 2 ^ 60) :
    HC Tryz.prog 80 #[linV p l c x, linV q m d y] h fun r h' => r = .bool (linB x y) ∧ Ext h h' := by
  refine hcr_of (args := [.agg #[.slice p l c, .int .u32 x.num], .agg #[.slice q m d, .int .u32 y.num]]) mixed Tryz.func80 (by kernel_rfl) (t_expr_Same_eq p l c x.num q m d y.num) ?_
  unfold t_expr_Same
  refine newB ?_
  intro h1 b1 e1 z1
  refine newB ?_
  intro h2 b2 e2 z2
  have b1 := b1.keep e2 (by simp)
  have e02 := e1.trans e2
  rw [add_box, add_box]
  refine loads_box b1 ((x.num : Int), ()) rfl ?_
  dsimp only [flat, unc, unc1, nA, cA]
  refine loads_box b2 ((y.num : Int), ()) rfl ?_
  dsimp only [flat, unc, unc1, nA, cA]
  refine cond_mk (fun g1 => ?_) (fun g1 => ?_)
  · have g1 : x.num = y.num := by have : (x.num : Int) = y.num := by simpa using g1
                                  omega
    refine loads_box b1 ((p, l, c), ()) rfl ?_
    dsimp only [flat, unc, unc1, nA, cA]
    refine loads_box b2 ((q, m, d), ()) rfl ?_
    dsimp only [flat, unc, unc1, nA, cA]
    refine call_bool (equal90_hc (v.keep e02 (by simp)) (w.keep e02 (by simp)) hl) ?_
    refine ⟨?_, e02⟩
    unfold linB
    rw [decide_eq_true g1]
    rfl
  · have g1 : ¬ x.num = y.num := by have : ¬ (x.num : Int) = y.num := by simpa using g1
                                    omega
    refine ⟨?_, e02⟩
    unfold linB
    rw [decide_eq_false g1]
    rfl
theorem same48_hc {h : Hp} {p q : Option Addr} {l m c d : Nat} {x y : Lin} (v : VwT h p l x.terms) (w : VwT h q m y.terms) (hl : x.terms.length ≤ 2 ^ 60) :
    HC Tryz.prog 75 #[linV p l c x, linV q m d y] h fun r h' => r = .bool (linB x y) ∧ Ext h h' := by
  refine hcr_of (args := [.agg #[.slice p l c, .int .u32 x.num], .agg #[.slice q m d, .int .u32 y.num]]) mixed Tryz.func75 (by kernel_rfl) (t_spandrelref4_Same_eq p l c x.num q m d y.num) ?_
  unfold t_spandrelref4_Same
  refine newB ?_
  intro h1 b1 e1 z1
  refine newB ?_
  intro h2 b2 e2 z2
  have b1 := b1.keep e2 (by simp)
  have e02 := e1.trans e2
  have v := v.keep e02 (by simp)
  have w := w.keep e02 (by simp)
  have hv := v.len
  have hw := w.len
  rw [add_box, add_box]
  refine loads_box b1 ((x.num : Int), ()) rfl ?_
  dsimp only [flat, unc, unc1, nA, cA]
  refine loads_box b2 ((y.num : Int), ()) rfl ?_
  dsimp only [flat, unc, unc1, nA, cA]
  refine cond_mk (fun g1 => ?_) (fun g1 => ?_)
  · have g1 : ¬ x.num = y.num := by have : ¬ (x.num : Int) = y.num := by simpa using g1
                                    omega
    refine ⟨?_, e02⟩
    unfold linB
    rw [decide_eq_false g1]
    rfl
  · have g1 : x.num = y.num := by have : (x.num : Int) = y.num := by simpa using g1
                                  omega
    have hB : linB x y = decide (x.terms = y.terms) := by
      unfold linB
      rw [decide_eq_true g1]
      rfl
    rw [hB]
    refine loads_box b1 ((p, l, c), ()) rfl ?_
    dsimp only [flat, unc, unc1, nA, cA]
    refine loads_box b2 ((q, m, d), ()) rfl ?_
    dsimp only [flat, unc, unc1, nA, cA]
    refine cond_mk (fun g2 => ?_) (fun g2 => ?_)
    · have g2 : ¬ (l : Int) = (m : Int) := by simpa using g2
      exact ⟨by rw [decide_eq_false (fun e => by rw [e] at hv; omega)], e02⟩
    · have g2 : (l : Int) = (m : Int) := by simpa using g2
      refine loop_of (cs := [(false, [.bool]), (false, [.int .i64])]) (fun z n h' => ∃ (i : Nat), z.2.1 = (i : Int) ∧ i ≤ x.terms.length ∧ n = x.terms.length - i ∧ h2 = h' ∧ (x.terms = y.terms ↔ x.terms.drop i = y.terms.drop i)) (false, (0 : Int), ()) x.terms.length rfl
        ⟨0, rfl, by omega, by omega, rfl, Iff.rfl⟩ ?_
      rintro ⟨b8, n8, ⟨⟩⟩ n h3 ⟨i, hi, hile, rfl, rfl, hq⟩
      simp only at hi
      subst hi
      dsimp only [flat, unc, unc1, nA, cA]
      refine loads_box b1 ((p, l, c), ()) rfl ?_
      dsimp only [flat, unc, unc1, nA, cA]
      refine cond_mk (fun g2 => ?_) (fun g2 => ?_)
      · have g2 := of_decide_eq_true g2
        have hi1 : i < x.terms.length := by omega
        have hi2 : i < y.terms.length := by omega
        obtain ⟨a, rfl, hc⟩ := v.cells i hi1
        obtain ⟨a', rfl, hc'⟩ := w.cells i hi2
        have hst := drop_eq_step hi1 hi2
        have hno := ne_of_drop hi1 hi2
        generalize x.terms[i] = t at hc hst hno
        generalize y.terms[i] = u at hc' hst hno
        refine loads_box b1 ((some a, l, c), ()) rfl ?_
        dsimp only [flat, unc, unc1, nA, cA]
        refine need_of ⟨by omega, by omega⟩ (osome_mk rfl ?_)
        rw [show Int.toNat (i : Int) = i by omega]
        refine loads_of (t.1, (t.2 : Int), ()) hc ?_
        dsimp only [flat, unc, unc1, nA, cA]
        refine loads_box b2 ((some a', m, d), ()) rfl ?_
        dsimp only [flat, unc, unc1, nA, cA]
        refine need_of ⟨by omega, by omega⟩ (osome_mk rfl ?_)
        refine loads_of (u.1, (u.2 : Int), ()) hc' ?_
        dsimp only [flat, unc, unc1, nA, cA]
        refine sem_bool (b := decide (t ≠ u)) (fun K' hk => cmpTrm _ _ _ _ _ _ _ _ (by rw [trm_ne]; exact hk)) ?_
        refine ⟨⟨b2.cells _ rfl, b1.cells _ rfl, trivial⟩, ?_⟩
        refine cond_mk (fun g3 => ?_) (fun g3 => ?_)
        · exact ⟨by rw [decide_eq_false (hno (of_decide_eq_true g3))], e02⟩
        · have g3 : t = u := by simpa using g3
          have hw : IntKind.wrap .i64 ((i : Int) + 1) = ((i + 1 : Nat) : Int) := by rw [wrap_i64 (by omega) (by omega)]; omega
          exact again_mk (cs := [(false, [.bool]), (false, [.int .i64])]) (b8, ((i + 1 : Nat) : Int), ()) (x.terms.length - (i + 1)) rfl (by omega) (congrArg (fun z => [Value.bool b8, Value.int .i64 z]) hw) ⟨i + 1, rfl, by omega, rfl, rfl, hq.trans (hst g3)⟩
      · have g2 := of_decide_eq_false g2
        refine ⟨?_, e02⟩
        rw [decide_eq_true (hq.2 (by rw [List.drop_eq_nil_of_le (by omega), List.drop_eq_nil_of_le (by omega)]))]
theorem cellsAt_flat {h:Hp} {a:Addr}:∀ (us:Tms) (k:Nat),(∀ i,(hi:i<us.length)→cellsAt h (a.add ((k+i)*2)) 0 (encT us[i]))→cellsAt h a (k*2) (us.map encT).flatten
 | [],_,_=>trivial
 | t::us,k,hc=>by
  have h0:=hc 0 (by simp)
  obtain ⟨h1,h2,_⟩:=h0
  rw [add_add] at h1 h2
  have ih:=cellsAt_flat us (k+1) (fun i hi=>by
   have:=hc (i+1) (by simpa using hi)
   rw [show k+(i+1)=k+1+i by omega] at this
   exact this)
  rw [show (k+1)*2=k*2+1+1 by omega] at ih
  exact ⟨h1,by simpa using h2,ih⟩
theorem VwT.flat {h:Hp} {a:Addr} {l:Nat} {us:Tms} (v:VwT h (some a) l us):cellsAt h a 0 (us.map encT).flatten:=by
 have:=cellsAt_flat (h:=h) (a:=a) us 0 (fun i hi=>by
  obtain ⟨a',e,hc⟩:=v.cells i hi
  cases e
  rw [Nat.zero_add]
  exact hc)
 simpa using this
end Go.Sx
set_option linter.unusedVariables false
set_option linter.unusedSimpArgs false
set_option maxRecDepth 100000
namespace Go.Sx.Ob
open Go.Proofs
theorem _root_.Go.Sx.Ch.st {h a b:Hp} {g:Nat} (e:Ext h a) (k:Ch [g] a b) (hg:h.size≤g):Ext h b:=Ch.trans e k (fun i hi hl=>by simp at hi; omega)
def rowsV (nm:Nat→ByteArray) (by_:Nat→Int):List Value:=(List.range 43).flatMap fun k=>[.string (nm k),.int .u8 (by_ k),.int .i64 (shpL.getD k 0:Nat)]
def Tab (h:Hp):Prop:=∃ nm by_ e f,h[1]?=some (.cells (rowsV nm by_).toArray e f)
theorem Tab.keep {ws:List Nat} {h h':Hp} (t:Tab h) (k:Ch ws h h') (hw:1∉ws):Tab h':=by
 obtain ⟨nm,by_,e,f,ht⟩:=t
 exact ⟨nm,by_,e,f,k.get ht hw⟩
theorem flat_get {α β:Type} (f:α→List β) (m:Nat) (hf:∀ x,(f x).length=m):∀ (l:List α) (i j:Nat),j<m→(l.flatMap f)[i*m+j]?=(l[i]?).bind fun x=>(f x)[j]?
 | [],i,j,hj=>by simp
 | x::l,0,j,hj=>by
  rw [List.flatMap_cons,List.getElem?_append_left (by rw [hf]; omega)]
  simp
 | x::l,i+1,j,hj=>by
  rw [List.flatMap_cons,List.getElem?_append_right (by rw [hf,Nat.add_mul]; omega),hf,show (i+1)*m+j-m=i*m+j by rw [Nat.add_mul]; omega,flat_get f m hf l i j hj]
  simp
theorem Tab.cells {h:Hp} (t:Tab h) {k:Nat} (hk:k<43):∃ (s:ByteArray) (b:Int),cellsAt h ((⟨1,0,none⟩:Addr).add (k*3)) 0 [.string s,.int .u8 b,.int .i64 (shpL.getD k 0:Nat)]:=by
 obtain ⟨nm,by_,e,f,ht⟩:=t
 refine ⟨nm k,by_ k,?_⟩
 have hg:∀ j,j<3→(rowsV nm by_)[k*3+j]?=([.string (nm k),.int .u8 (by_ k),.int .i64 (shpL.getD k 0:Nat)]:List Value)[j]?:=by
  intro j hj
  unfold rowsV
  rw [flat_get _ 3 (by simp) _ _ _ hj]
  simp [hk]
 rw [add_box]
 refine ⟨?_,?_,?_,trivial⟩
 ·rw [add_box,hcell_of ht]
  have:=hg 0 (by omega)
  simpa using this
 ·rw [add_box,hcell_of ht]
  have:=hg 1 (by omega)
  simpa using this
 ·rw [add_box,hcell_of ht]
  have:=hg 2 (by omega)
  simpa using this
theorem at_hc {h:Hp} (t:Tab h) (op:Int) (h1:-9223372036854775808≤op) (h2:op≤9223372036854775807) :
  HC Tryz.prog 90 #[.int .i64 op] h fun w h'=>∃ (s:ByteArray) (b:Int),w=.tuple #[.agg #[.string s,.int .u8 b,.int .i64 (shp op:Nat)],.bool (decide (shp op≠0))]∧Ext h h':=by
 refine hcr_of (args:=[.int .i64 op]) mixed Tryz.func90 (by kernel_rfl) (t_isa_At_eq op) ?_
 unfold t_isa_At
 refine newB ?_
 intro g1 b1 e1 z1
 have hz:∀ (hh:shp op=0),(∃ (s:ByteArray) (b:Int),(Value.tuple #[.agg #[.string ⟨#[]⟩,.int .u8 0,.int .i64 0],.bool false])=.tuple #[.agg #[.string s,.int .u8 b,.int .i64 (shp op:Nat)],.bool (decide (shp op≠0))]) :=
  fun hh=>⟨⟨#[]⟩,0,by rw [hh]; rfl⟩
 refine cond_mk (fun q=>?_) (fun q=>?_)
 ·have q:=of_decide_eq_true q
  refine stores_of b1 rfl (by simp) ?_
  intro g2 b2 k2 z2
  refine loads_box b2 ((⟨#[]⟩:ByteArray),(0:Int),(0:Int),()) rfl ?_
  obtain ⟨s,b,e⟩:=hz (by unfold shp; rw [if_pos q])
  exact ⟨s,b,e,Ch.trans e1 k2 (fun i hi hl=>by simp at hi; omega)⟩
 refine cond_mk (fun r=>?_) (fun r=>?_)
 ·have r:=of_decide_eq_true r
  refine stores_of b1 rfl (by simp) ?_
  intro g2 b2 k2 z2
  refine loads_box b2 ((⟨#[]⟩:ByteArray),(0:Int),(0:Int),()) rfl ?_
  obtain ⟨s,b,e⟩:=hz (by
   by_cases g:shp op=0
   ·exact g
   ·have:=shp_le op g
    omega)
  exact ⟨s,b,e,Ch.trans e1 k2 (fun i hi hl=>by simp at hi; omega)⟩
 ·have q:=of_decide_eq_false q
  have r:=of_decide_eq_false r
  rw [wrap_i64 (by omega) (by omega)]
  refine need_of ⟨by omega,by omega⟩ ?_
  obtain ⟨s,b,hc⟩:=(t.keep e1 (by simp)).cells (k:=(op-1).toNat) (by omega)
  refine loads_of (s,b,((shpL.getD (op-1).toNat 0:Nat):Int),()) hc ?_
  dsimp only [flat,unc,unc1,nA,cA]
  refine stores_of b1 rfl (by simp) ?_
  intro g2 b2 k2 z2
  refine loads_box b2 (s,b,((shpL.getD (op-1).toNat 0:Nat):Int),()) rfl ?_
  refine ⟨s,b,?_,Ch.trans e1 k2 (fun i hi hl=>by simp at hi; omega)⟩
  have h3:shp op=shpL.getD (op-1).toNat 0:=by unfold shp; rw [if_neg (by omega)]
  have h4:shp op≠0:=by
   rw [h3]
   have:∀ k:Fin 43,shpL.getD k.1 0≠0:=by decide
   exact this ⟨(op-1).toNat,by omega⟩
  rw [decide_eq_true h4,h3]
theorem spans_hc {h:Hp} (t:Tab h) (op:Int) (h1:-9223372036854775808≤op) (h2:op≤9223372036854775807) :
  HC Tryz.prog 51 #[.int .i64 op] h fun w h'=>w=.bool (spn op)∧Ext h h':=by
 refine hcr_of (args:=[.int .i64 op]) mixed Tryz.func51 (by kernel_rfl) (t_isa_Spans_eq op) ?_
 unfold t_isa_Spans
 refine call_of (at_hc t op h1 h2) ?_
 rintro _ g1 ⟨s,b,rfl,e1⟩
 refine ⟨(s,b,((shp op:Nat):Int),decide (shp op≠0),()),rfl,?_⟩
 dsimp only [flat,unc,unc1,nA,cA]
 refine newB ?_
 intro g2 b2 e2 z2
 refine stores_of b2 rfl (by simp) ?_
 intro g3 b3 k3 z3
 have e3:=(e1.trans e2).st k3 (by have:=e1.size; omega)
 have b3:Box g3 g1.size 158 [.string s,.int .u8 b,.int .i64 (shp op:Nat)]:=b3
 rw [add_box]
 refine loads_box b3 (((shp op:Nat):Int),()) rfl ?_
 dsimp only [flat,unc,unc1,nA,cA]
 have hc:=shp_cases op
 refine cond_mk (fun q=>?_) (fun q=>?_)
 ·have q:((shp op:Nat):Int)=12:=by simpa using q
  refine ⟨?_,e3⟩
  unfold spn
  rw [decide_eq_true (by omega)]
 ·have q:¬ ((shp op:Nat):Int)=12:=by simpa using q
  refine loads_box b3 (((shp op:Nat):Int),()) rfl ?_
  refine ⟨?_,e3⟩
  unfold spn
  by_cases r:shp op=13
  ·rw [r]; rfl
  ·rw [decide_eq_false (by omega)]
   congr 1
   simp
   omega
theorem wrap_i32_8 (n:Int):(n==IntKind.wrap .i32 (IntKind.wrap .i8 n))=(decide (-128≤n) && decide (n≤127)):=by
 have h1:IntKind.wrap .i8 n=if n % 256<128 then n % 256 else n % 256-256:=by
  simp only [IntKind.wrap,IntKind.bits,IntKind.signed,Bool.true_and]
  split <;> rename_i hh
  ·have:=of_decide_eq_true hh
   rw [if_neg (by omega)]
   rfl
  ·have:¬ _:=fun h=>hh (decide_eq_true h)
   rw [if_pos (by omega)]
   rfl
 have h2:IntKind.wrap .i32 (IntKind.wrap .i8 n)=IntKind.wrap .i8 n:=by
  have:-128≤IntKind.wrap .i8 n∧IntKind.wrap .i8 n≤127:=by rw [h1]; split <;> omega
  generalize IntKind.wrap .i8 n=m at this
  simp only [IntKind.wrap,IntKind.bits,IntKind.signed,Bool.true_and]
  split <;> rename_i hh
  ·have:=of_decide_eq_true hh; omega
  ·have:¬ _:=fun h=>hh (decide_eq_true h); omega
 rw [h2,h1]
 by_cases g:-128≤n∧n≤127
 ·rw [decide_eq_true g.1,decide_eq_true g.2]
  simp
  split <;> omega
 ·have:(decide (-128≤n) && decide (n≤127))=false:=by
   rw [Bool.and_eq_false_iff]
   simp
   omega
  rw [this]
  simp
  split <;> omega
theorem wrap_i32_16 (n:Int):(n==IntKind.wrap .i32 (IntKind.wrap .i16 n))=(decide (-32768≤n) && decide (n≤32767)):=by
 have h1:IntKind.wrap .i16 n=if n % 65536<32768 then n % 65536 else n % 65536-65536:=by
  simp only [IntKind.wrap,IntKind.bits,IntKind.signed,Bool.true_and]
  split <;> rename_i hh
  ·have:=of_decide_eq_true hh
   rw [if_neg (by omega)]
   rfl
  ·have:¬ _:=fun h=>hh (decide_eq_true h)
   rw [if_pos (by omega)]
   rfl
 have h2:IntKind.wrap .i32 (IntKind.wrap .i16 n)=IntKind.wrap .i16 n:=by
  have:-32768≤IntKind.wrap .i16 n∧IntKind.wrap .i16 n≤32767:=by rw [h1]; split <;> omega
  generalize IntKind.wrap .i16 n=m at this
  simp only [IntKind.wrap,IntKind.bits,IntKind.signed,Bool.true_and]
  split <;> rename_i hh
  ·have:=of_decide_eq_true hh; omega
  ·have:¬ _:=fun h=>hh (decide_eq_true h); omega
 rw [h2,h1]
 by_cases g:-32768≤n∧n≤32767
 ·rw [decide_eq_true g.1,decide_eq_true g.2]
  simp
  split <;> omega
 ·have:(decide (-32768≤n) && decide (n≤32767))=false:=by
   rw [Bool.and_eq_false_iff]
   simp
   omega
  rw [this]
  simp
  split <;> omega
theorem reaches_hc (h:Hp) (n f:Int):HCp Tryz.prog 173 [.int .i32 n,.int .i64 f] h (.bool (nReach n f)):=by
 refine hcp_of mixed Tryz.func173 (by kernel_rfl) (t_isa_Reaches_eq n f) ?_
 unfold t_isa_Reaches
 rw [wrap_i32_8,wrap_i32_16]
 refine cond_mk (fun q=>?_) (fun q=>?_)
 ·have q:f=1:=by simpa using q
  exact ⟨by unfold nReach; rw [if_pos q],rfl⟩
 have q:¬ f=1:=by simpa using q
 refine cond_mk (fun r=>?_) (fun r=>?_)
 ·have r:f=2:=by simpa using r
  exact ⟨by unfold nReach; rw [if_neg q,if_pos r],rfl⟩
 have r:¬ f=2:=by simpa using r
 exact ⟨by unfold nReach; rw [if_neg q,if_neg r]; rfl,rfl⟩
theorem power_hc (h:Hp) (n:Int):HCp Tryz.prog 79 [.int .i64 n] h (.bool (pow2 n)):=by
 refine hcp_of mixed Tryz.func79 (by kernel_rfl) (t_item_power_eq n) ?_
 unfold t_item_power
 have hf:¬ (1≤n∧n≤256)→pow2 n=false:=by
  intro g
  cases hp:pow2 n with
  | false=>rfl
  | true =>
   exfalso
   unfold pow2 at hp
   simp only [Bool.or_eq_true,decide_eq_true_eq] at hp
   omega
 refine cond_mk (fun q=>?_) (fun q=>?_)
 ·have q:=of_decide_eq_true q
  refine cond_mk (fun r=>?_) (fun r=>?_)
  ·have r:=of_decide_eq_true r
   refine ⟨?_,rfl⟩
   obtain ⟨k,rfl,hk⟩:∃ k:Nat,n=((k+1:Nat):Int)∧k<256:=⟨(n-1).toNat,by omega,by omega⟩
   have:∀ k:Fin 256,(IntKind.wrap .i64 (((BitVec.toNat ((BitVec.ofInt 64 ((k.1+1:Nat):Int)) &&& (BitVec.ofInt 64 (IntKind.wrap .i64 (((k.1+1:Nat):Int)-(1:Int)))))):Nat):Int)==(0:Int))=pow2 ((k.1+1:Nat):Int):=by
    decide +kernel
   rw [this ⟨k,hk⟩]
  ·have r:=of_decide_eq_false r
   exact ⟨by rw [hf (by omega)],rfl⟩
 ·have q:=of_decide_eq_false q
  exact ⟨by rw [hf (by omega)],rfl⟩
theorem below_hc (h:Hp) (n m:Int):HCp Tryz.prog 172 [.int .i64 n,.int .i64 m] h (.bool (blw n m)):=by
 refine hcp_of mixed Tryz.func172 (by kernel_rfl) (t_isa_below_eq n m) ?_
 unfold t_isa_below
 refine cond_mk (fun q=>?_) (fun q=>?_)
 ·have q:=of_decide_eq_true q
  refine ⟨?_,rfl⟩
  unfold blw
  rw [decide_eq_true (show 0≤n by omega)]
  rfl
 ·have q:=of_decide_eq_false q
  refine ⟨?_,rfl⟩
  unfold blw
  rw [decide_eq_false (show ¬ 0≤n by omega)]
  rfl
theorem beqD (a b:Int):(a==b)=decide (a=b):=rfl
def insV (op a b n form:Int):Value:=.agg #[.int .i64 op,.int .i64 a,.int .i64 b,.int .i32 n,.int .i64 form]
theorem regs1_hc (h:Hp) (op a b n form:Int):HC Tryz.prog 143 #[insV op a b n form,.int .i64 1] h fun w h'=>w=.bool (regsR 1 a b n)∧Ext h h':=by
 refine hcr_of (args:=[insV op a b n form,.int .i64 1]) mixed Tryz.func143 (by kernel_rfl) (t_isa_registers_r1_eq op a b n form) ?_
 unfold t_isa_registers_r1
 refine newB ?_
 intro g1 b1 e1 z1
 try simp only [add_box]
 repeat' (first
  | (refine loads_box b1 (_,()) rfl ?_; dsimp only [flat,unc,unc1,nA,cA])
  | (refine call_bool (below_hc _ _ _) ?_)
  | (refine call_bool (reaches_hc _ _ _) ?_)
  | (refine cond_mk (fun q=>?_) (fun q=>?_)))
 all_goals (refine ⟨?_,e1⟩; first | (simp_all [regsR,beqD]; done) | (simp_all [regsR,beqD] <;> simp [blw] <;> omega))
theorem num1_hc (h:Hp) (op a b n form:Int):HC Tryz.prog 144 #[insV op a b n form,.int .i64 1] h fun w h'=>w=.bool (nR 1 n form)∧Ext h h':=by
 refine hcr_of (args:=[insV op a b n form,.int .i64 1]) mixed Tryz.func144 (by kernel_rfl) (t_isa_number_n1_eq op a b n form) ?_
 unfold t_isa_number_n1
 refine newB ?_
 intro g1 b1 e1 z1
 try simp only [add_box]
 repeat' (first
  | (refine loads_box b1 (_,()) rfl ?_; dsimp only [flat,unc,unc1,nA,cA])
  | (refine call_bool (below_hc _ _ _) ?_)
  | (refine call_bool (reaches_hc _ _ _) ?_)
  | (refine cond_mk (fun q=>?_) (fun q=>?_)))
 all_goals (refine ⟨?_,e1⟩; first | (simp_all [nR,beqD]; done) | (simp_all [nR,beqD] <;> omega))
theorem regs2_hc (h:Hp) (op a b n form:Int):HC Tryz.prog 143 #[insV op a b n form,.int .i64 2] h fun w h'=>w=.bool (regsR 2 a b n)∧Ext h h':=by
 refine hcr_of (args:=[insV op a b n form,.int .i64 2]) mixed Tryz.func143 (by kernel_rfl) (t_isa_registers_r2_eq op a b n form) ?_
 unfold t_isa_registers_r2
 refine newB ?_
 intro g1 b1 e1 z1
 try simp only [add_box]
 repeat' (first
  | (refine loads_box b1 (_,()) rfl ?_; dsimp only [flat,unc,unc1,nA,cA])
  | (refine call_bool (below_hc _ _ _) ?_)
  | (refine call_bool (reaches_hc _ _ _) ?_)
  | (refine cond_mk (fun q=>?_) (fun q=>?_)))
 all_goals (refine ⟨?_,e1⟩; first | (simp_all [regsR,beqD]; done) | (simp_all [regsR,beqD] <;> simp [blw] <;> omega))
theorem num2_hc (h:Hp) (op a b n form:Int):HC Tryz.prog 144 #[insV op a b n form,.int .i64 2] h fun w h'=>w=.bool (nR 2 n form)∧Ext h h':=by
 refine hcr_of (args:=[insV op a b n form,.int .i64 2]) mixed Tryz.func144 (by kernel_rfl) (t_isa_number_n2_eq op a b n form) ?_
 unfold t_isa_number_n2
 refine newB ?_
 intro g1 b1 e1 z1
 try simp only [add_box]
 repeat' (first
  | (refine loads_box b1 (_,()) rfl ?_; dsimp only [flat,unc,unc1,nA,cA])
  | (refine call_bool (below_hc _ _ _) ?_)
  | (refine call_bool (reaches_hc _ _ _) ?_)
  | (refine cond_mk (fun q=>?_) (fun q=>?_)))
 all_goals (refine ⟨?_,e1⟩; first | (simp_all [nR,beqD]; done) | (simp_all [nR,beqD] <;> omega))
theorem regs3_hc (h:Hp) (op a b n form:Int):HC Tryz.prog 143 #[insV op a b n form,.int .i64 3] h fun w h'=>w=.bool (regsR 3 a b n)∧Ext h h':=by
 refine hcr_of (args:=[insV op a b n form,.int .i64 3]) mixed Tryz.func143 (by kernel_rfl) (t_isa_registers_r3_eq op a b n form) ?_
 unfold t_isa_registers_r3
 refine newB ?_
 intro g1 b1 e1 z1
 try simp only [add_box]
 repeat' (first
  | (refine loads_box b1 (_,()) rfl ?_; dsimp only [flat,unc,unc1,nA,cA])
  | (refine call_bool (below_hc _ _ _) ?_)
  | (refine call_bool (reaches_hc _ _ _) ?_)
  | (refine cond_mk (fun q=>?_) (fun q=>?_)))
 all_goals (refine ⟨?_,e1⟩; first | (simp_all [regsR,beqD]; done) | (simp_all [regsR,beqD] <;> simp [blw] <;> omega))
theorem num3_hc (h:Hp) (op a b n form:Int):HC Tryz.prog 144 #[insV op a b n form,.int .i64 3] h fun w h'=>w=.bool (nR 3 n form)∧Ext h h':=by
 refine hcr_of (args:=[insV op a b n form,.int .i64 3]) mixed Tryz.func144 (by kernel_rfl) (t_isa_number_n3_eq op a b n form) ?_
 unfold t_isa_number_n3
 refine newB ?_
 intro g1 b1 e1 z1
 try simp only [add_box]
 repeat' (first
  | (refine loads_box b1 (_,()) rfl ?_; dsimp only [flat,unc,unc1,nA,cA])
  | (refine call_bool (below_hc _ _ _) ?_)
  | (refine call_bool (reaches_hc _ _ _) ?_)
  | (refine cond_mk (fun q=>?_) (fun q=>?_)))
 all_goals (refine ⟨?_,e1⟩; first | (simp_all [nR,beqD]; done) | (simp_all [nR,beqD] <;> omega))
theorem regs4_hc (h:Hp) (op a b n form:Int):HC Tryz.prog 143 #[insV op a b n form,.int .i64 4] h fun w h'=>w=.bool (regsR 4 a b n)∧Ext h h':=by
 refine hcr_of (args:=[insV op a b n form,.int .i64 4]) mixed Tryz.func143 (by kernel_rfl) (t_isa_registers_r4_eq op a b n form) ?_
 unfold t_isa_registers_r4
 refine newB ?_
 intro g1 b1 e1 z1
 try simp only [add_box]
 repeat' (first
  | (refine loads_box b1 (_,()) rfl ?_; dsimp only [flat,unc,unc1,nA,cA])
  | (refine call_bool (below_hc _ _ _) ?_)
  | (refine call_bool (reaches_hc _ _ _) ?_)
  | (refine cond_mk (fun q=>?_) (fun q=>?_)))
 all_goals (refine ⟨?_,e1⟩; first | (simp_all [regsR,beqD]; done) | (simp_all [regsR,beqD] <;> simp [blw] <;> omega))
theorem num4_hc (h:Hp) (op a b n form:Int):HC Tryz.prog 144 #[insV op a b n form,.int .i64 4] h fun w h'=>w=.bool (nR 4 n form)∧Ext h h':=by
 refine hcr_of (args:=[insV op a b n form,.int .i64 4]) mixed Tryz.func144 (by kernel_rfl) (t_isa_number_n4_eq op a b n form) ?_
 unfold t_isa_number_n4
 refine newB ?_
 intro g1 b1 e1 z1
 try simp only [add_box]
 repeat' (first
  | (refine loads_box b1 (_,()) rfl ?_; dsimp only [flat,unc,unc1,nA,cA])
  | (refine call_bool (below_hc _ _ _) ?_)
  | (refine call_bool (reaches_hc _ _ _) ?_)
  | (refine cond_mk (fun q=>?_) (fun q=>?_)))
 all_goals (refine ⟨?_,e1⟩; first | (simp_all [nR,beqD]; done) | (simp_all [nR,beqD] <;> omega))
theorem regs5_hc (h:Hp) (op a b n form:Int):HC Tryz.prog 143 #[insV op a b n form,.int .i64 5] h fun w h'=>w=.bool (regsR 5 a b n)∧Ext h h':=by
 refine hcr_of (args:=[insV op a b n form,.int .i64 5]) mixed Tryz.func143 (by kernel_rfl) (t_isa_registers_r5_eq op a b n form) ?_
 unfold t_isa_registers_r5
 refine newB ?_
 intro g1 b1 e1 z1
 try simp only [add_box]
 repeat' (first
  | (refine loads_box b1 (_,()) rfl ?_; dsimp only [flat,unc,unc1,nA,cA])
  | (refine call_bool (below_hc _ _ _) ?_)
  | (refine call_bool (reaches_hc _ _ _) ?_)
  | (refine cond_mk (fun q=>?_) (fun q=>?_)))
 all_goals (refine ⟨?_,e1⟩; first | (simp_all [regsR,beqD]; done) | (simp_all [regsR,beqD] <;> simp [blw] <;> omega))
theorem num5_hc (h:Hp) (op a b n form:Int):HC Tryz.prog 144 #[insV op a b n form,.int .i64 5] h fun w h'=>w=.bool (nR 5 n form)∧Ext h h':=by
 refine hcr_of (args:=[insV op a b n form,.int .i64 5]) mixed Tryz.func144 (by kernel_rfl) (t_isa_number_n5_eq op a b n form) ?_
 unfold t_isa_number_n5
 refine newB ?_
 intro g1 b1 e1 z1
 try simp only [add_box]
 repeat' (first
  | (refine loads_box b1 (_,()) rfl ?_; dsimp only [flat,unc,unc1,nA,cA])
  | (refine call_bool (below_hc _ _ _) ?_)
  | (refine call_bool (reaches_hc _ _ _) ?_)
  | (refine cond_mk (fun q=>?_) (fun q=>?_)))
 all_goals (refine ⟨?_,e1⟩; first | (simp_all [nR,beqD]; done) | (simp_all [nR,beqD] <;> omega))
theorem regs6_hc (h:Hp) (op a b n form:Int):HC Tryz.prog 143 #[insV op a b n form,.int .i64 6] h fun w h'=>w=.bool (regsR 6 a b n)∧Ext h h':=by
 refine hcr_of (args:=[insV op a b n form,.int .i64 6]) mixed Tryz.func143 (by kernel_rfl) (t_isa_registers_r6_eq op a b n form) ?_
 unfold t_isa_registers_r6
 refine newB ?_
 intro g1 b1 e1 z1
 try simp only [add_box]
 repeat' (first
  | (refine loads_box b1 (_,()) rfl ?_; dsimp only [flat,unc,unc1,nA,cA])
  | (refine call_bool (below_hc _ _ _) ?_)
  | (refine call_bool (reaches_hc _ _ _) ?_)
  | (refine cond_mk (fun q=>?_) (fun q=>?_)))
 all_goals (refine ⟨?_,e1⟩; first | (simp_all [regsR,beqD]; done) | (simp_all [regsR,beqD] <;> simp [blw] <;> omega))
theorem num6_hc (h:Hp) (op a b n form:Int):HC Tryz.prog 144 #[insV op a b n form,.int .i64 6] h fun w h'=>w=.bool (nR 6 n form)∧Ext h h':=by
 refine hcr_of (args:=[insV op a b n form,.int .i64 6]) mixed Tryz.func144 (by kernel_rfl) (t_isa_number_n6_eq op a b n form) ?_
 unfold t_isa_number_n6
 refine newB ?_
 intro g1 b1 e1 z1
 try simp only [add_box]
 repeat' (first
  | (refine loads_box b1 (_,()) rfl ?_; dsimp only [flat,unc,unc1,nA,cA])
  | (refine call_bool (below_hc _ _ _) ?_)
  | (refine call_bool (reaches_hc _ _ _) ?_)
  | (refine cond_mk (fun q=>?_) (fun q=>?_)))
 all_goals (refine ⟨?_,e1⟩; first | (simp_all [nR,beqD]; done) | (simp_all [nR,beqD] <;> omega))
theorem regs7_hc (h:Hp) (op a b n form:Int):HC Tryz.prog 143 #[insV op a b n form,.int .i64 7] h fun w h'=>w=.bool (regsR 7 a b n)∧Ext h h':=by
 refine hcr_of (args:=[insV op a b n form,.int .i64 7]) mixed Tryz.func143 (by kernel_rfl) (t_isa_registers_r7_eq op a b n form) ?_
 unfold t_isa_registers_r7
 refine newB ?_
 intro g1 b1 e1 z1
 try simp only [add_box]
 repeat' (first
  | (refine loads_box b1 (_,()) rfl ?_; dsimp only [flat,unc,unc1,nA,cA])
  | (refine call_bool (below_hc _ _ _) ?_)
  | (refine call_bool (reaches_hc _ _ _) ?_)
  | (refine cond_mk (fun q=>?_) (fun q=>?_)))
 all_goals (refine ⟨?_,e1⟩; first | (simp_all [regsR,beqD]; done) | (simp_all [regsR,beqD] <;> simp [blw] <;> omega))
theorem num7_hc (h:Hp) (op a b n form:Int):HC Tryz.prog 144 #[insV op a b n form,.int .i64 7] h fun w h'=>w=.bool (nR 7 n form)∧Ext h h':=by
 refine hcr_of (args:=[insV op a b n form,.int .i64 7]) mixed Tryz.func144 (by kernel_rfl) (t_isa_number_n7_eq op a b n form) ?_
 unfold t_isa_number_n7
 refine newB ?_
 intro g1 b1 e1 z1
 try simp only [add_box]
 repeat' (first
  | (refine loads_box b1 (_,()) rfl ?_; dsimp only [flat,unc,unc1,nA,cA])
  | (refine call_bool (below_hc _ _ _) ?_)
  | (refine call_bool (reaches_hc _ _ _) ?_)
  | (refine cond_mk (fun q=>?_) (fun q=>?_)))
 all_goals (refine ⟨?_,e1⟩; first | (simp_all [nR,beqD]; done) | (simp_all [nR,beqD] <;> omega))
theorem regs8_hc (h:Hp) (op a b n form:Int):HC Tryz.prog 143 #[insV op a b n form,.int .i64 8] h fun w h'=>w=.bool (regsR 8 a b n)∧Ext h h':=by
 refine hcr_of (args:=[insV op a b n form,.int .i64 8]) mixed Tryz.func143 (by kernel_rfl) (t_isa_registers_r8_eq op a b n form) ?_
 unfold t_isa_registers_r8
 refine newB ?_
 intro g1 b1 e1 z1
 try simp only [add_box]
 repeat' (first
  | (refine loads_box b1 (_,()) rfl ?_; dsimp only [flat,unc,unc1,nA,cA])
  | (refine call_bool (below_hc _ _ _) ?_)
  | (refine call_bool (reaches_hc _ _ _) ?_)
  | (refine cond_mk (fun q=>?_) (fun q=>?_)))
 all_goals (refine ⟨?_,e1⟩; first | (simp_all [regsR,beqD]; done) | (simp_all [regsR,beqD] <;> simp [blw] <;> omega))
theorem num8_hc (h:Hp) (op a b n form:Int):HC Tryz.prog 144 #[insV op a b n form,.int .i64 8] h fun w h'=>w=.bool (nR 8 n form)∧Ext h h':=by
 refine hcr_of (args:=[insV op a b n form,.int .i64 8]) mixed Tryz.func144 (by kernel_rfl) (t_isa_number_n8_eq op a b n form) ?_
 unfold t_isa_number_n8
 refine newB ?_
 intro g1 b1 e1 z1
 try simp only [add_box]
 repeat' (first
  | (refine loads_box b1 (_,()) rfl ?_; dsimp only [flat,unc,unc1,nA,cA])
  | (refine call_bool (below_hc _ _ _) ?_)
  | (refine call_bool (reaches_hc _ _ _) ?_)
  | (refine cond_mk (fun q=>?_) (fun q=>?_)))
 all_goals (refine ⟨?_,e1⟩; first | (simp_all [nR,beqD]; done) | (simp_all [nR,beqD] <;> omega))
theorem regs9_hc (h:Hp) (op a b n form:Int):HC Tryz.prog 143 #[insV op a b n form,.int .i64 9] h fun w h'=>w=.bool (regsR 9 a b n)∧Ext h h':=by
 refine hcr_of (args:=[insV op a b n form,.int .i64 9]) mixed Tryz.func143 (by kernel_rfl) (t_isa_registers_r9_eq op a b n form) ?_
 unfold t_isa_registers_r9
 refine newB ?_
 intro g1 b1 e1 z1
 try simp only [add_box]
 repeat' (first
  | (refine loads_box b1 (_,()) rfl ?_; dsimp only [flat,unc,unc1,nA,cA])
  | (refine call_bool (below_hc _ _ _) ?_)
  | (refine call_bool (reaches_hc _ _ _) ?_)
  | (refine cond_mk (fun q=>?_) (fun q=>?_)))
 all_goals (refine ⟨?_,e1⟩; first | (simp_all [regsR,beqD]; done) | (simp_all [regsR,beqD] <;> simp [blw] <;> omega))
theorem num9_hc (h:Hp) (op a b n form:Int):HC Tryz.prog 144 #[insV op a b n form,.int .i64 9] h fun w h'=>w=.bool (nR 9 n form)∧Ext h h':=by
 refine hcr_of (args:=[insV op a b n form,.int .i64 9]) mixed Tryz.func144 (by kernel_rfl) (t_isa_number_n9_eq op a b n form) ?_
 unfold t_isa_number_n9
 refine newB ?_
 intro g1 b1 e1 z1
 try simp only [add_box]
 repeat' (first
  | (refine loads_box b1 (_,()) rfl ?_; dsimp only [flat,unc,unc1,nA,cA])
  | (refine call_bool (below_hc _ _ _) ?_)
  | (refine call_bool (reaches_hc _ _ _) ?_)
  | (refine cond_mk (fun q=>?_) (fun q=>?_)))
 all_goals (refine ⟨?_,e1⟩; first | (simp_all [nR,beqD]; done) | (simp_all [nR,beqD] <;> omega))
theorem regs10_hc (h:Hp) (op a b n form:Int):HC Tryz.prog 143 #[insV op a b n form,.int .i64 10] h fun w h'=>w=.bool (regsR 10 a b n)∧Ext h h':=by
 refine hcr_of (args:=[insV op a b n form,.int .i64 10]) mixed Tryz.func143 (by kernel_rfl) (t_isa_registers_r10_eq op a b n form) ?_
 unfold t_isa_registers_r10
 refine newB ?_
 intro g1 b1 e1 z1
 try simp only [add_box]
 repeat' (first
  | (refine loads_box b1 (_,()) rfl ?_; dsimp only [flat,unc,unc1,nA,cA])
  | (refine call_bool (below_hc _ _ _) ?_)
  | (refine call_bool (reaches_hc _ _ _) ?_)
  | (refine cond_mk (fun q=>?_) (fun q=>?_)))
 all_goals (refine ⟨?_,e1⟩; first | (simp_all [regsR,beqD]; done) | (simp_all [regsR,beqD] <;> simp [blw] <;> omega))
theorem num10_hc (h:Hp) (op a b n form:Int):HC Tryz.prog 144 #[insV op a b n form,.int .i64 10] h fun w h'=>w=.bool (nR 10 n form)∧Ext h h':=by
 refine hcr_of (args:=[insV op a b n form,.int .i64 10]) mixed Tryz.func144 (by kernel_rfl) (t_isa_number_n10_eq op a b n form) ?_
 unfold t_isa_number_n10
 refine newB ?_
 intro g1 b1 e1 z1
 try simp only [add_box]
 repeat' (first
  | (refine loads_box b1 (_,()) rfl ?_; dsimp only [flat,unc,unc1,nA,cA])
  | (refine call_bool (below_hc _ _ _) ?_)
  | (refine call_bool (reaches_hc _ _ _) ?_)
  | (refine cond_mk (fun q=>?_) (fun q=>?_)))
 all_goals (refine ⟨?_,e1⟩; first | (simp_all [nR,beqD]; done) | (simp_all [nR,beqD] <;> omega))
theorem regs11_hc (h:Hp) (op a b n form:Int):HC Tryz.prog 143 #[insV op a b n form,.int .i64 11] h fun w h'=>w=.bool (regsR 11 a b n)∧Ext h h':=by
 refine hcr_of (args:=[insV op a b n form,.int .i64 11]) mixed Tryz.func143 (by kernel_rfl) (t_isa_registers_r11_eq op a b n form) ?_
 unfold t_isa_registers_r11
 refine newB ?_
 intro g1 b1 e1 z1
 try simp only [add_box]
 repeat' (first
  | (refine loads_box b1 (_,()) rfl ?_; dsimp only [flat,unc,unc1,nA,cA])
  | (refine call_bool (below_hc _ _ _) ?_)
  | (refine call_bool (reaches_hc _ _ _) ?_)
  | (refine cond_mk (fun q=>?_) (fun q=>?_)))
 all_goals (refine ⟨?_,e1⟩; first | (simp_all [regsR,beqD]; done) | (simp_all [regsR,beqD] <;> simp [blw] <;> omega))
theorem num11_hc (h:Hp) (op a b n form:Int):HC Tryz.prog 144 #[insV op a b n form,.int .i64 11] h fun w h'=>w=.bool (nR 11 n form)∧Ext h h':=by
 refine hcr_of (args:=[insV op a b n form,.int .i64 11]) mixed Tryz.func144 (by kernel_rfl) (t_isa_number_n11_eq op a b n form) ?_
 unfold t_isa_number_n11
 refine newB ?_
 intro g1 b1 e1 z1
 try simp only [add_box]
 repeat' (first
  | (refine loads_box b1 (_,()) rfl ?_; dsimp only [flat,unc,unc1,nA,cA])
  | (refine call_bool (below_hc _ _ _) ?_)
  | (refine call_bool (reaches_hc _ _ _) ?_)
  | (refine cond_mk (fun q=>?_) (fun q=>?_)))
 all_goals (refine ⟨?_,e1⟩; first | (simp_all [nR,beqD]; done) | (simp_all [nR,beqD] <;> omega))
theorem regs12_hc (h:Hp) (op a b n form:Int):HC Tryz.prog 143 #[insV op a b n form,.int .i64 12] h fun w h'=>w=.bool (regsR 12 a b n)∧Ext h h':=by
 refine hcr_of (args:=[insV op a b n form,.int .i64 12]) mixed Tryz.func143 (by kernel_rfl) (t_isa_registers_r12_eq op a b n form) ?_
 unfold t_isa_registers_r12
 refine newB ?_
 intro g1 b1 e1 z1
 try simp only [add_box]
 repeat' (first
  | (refine loads_box b1 (_,()) rfl ?_; dsimp only [flat,unc,unc1,nA,cA])
  | (refine call_bool (below_hc _ _ _) ?_)
  | (refine call_bool (reaches_hc _ _ _) ?_)
  | (refine cond_mk (fun q=>?_) (fun q=>?_)))
 all_goals (refine ⟨?_,e1⟩; first | (simp_all [regsR,beqD]; done) | (simp_all [regsR,beqD] <;> simp [blw] <;> omega))
theorem num12_hc (h:Hp) (op a b n form:Int):HC Tryz.prog 144 #[insV op a b n form,.int .i64 12] h fun w h'=>w=.bool (nR 12 n form)∧Ext h h':=by
 refine hcr_of (args:=[insV op a b n form,.int .i64 12]) mixed Tryz.func144 (by kernel_rfl) (t_isa_number_n12_eq op a b n form) ?_
 unfold t_isa_number_n12
 refine newB ?_
 intro g1 b1 e1 z1
 try simp only [add_box]
 repeat' (first
  | (refine loads_box b1 (_,()) rfl ?_; dsimp only [flat,unc,unc1,nA,cA])
  | (refine call_bool (below_hc _ _ _) ?_)
  | (refine call_bool (reaches_hc _ _ _) ?_)
  | (refine cond_mk (fun q=>?_) (fun q=>?_)))
 all_goals (refine ⟨?_,e1⟩; first | (simp_all [nR,beqD]; done) | (simp_all [nR,beqD] <;> omega))
theorem regs13_hc (h:Hp) (op a b n form:Int):HC Tryz.prog 143 #[insV op a b n form,.int .i64 13] h fun w h'=>w=.bool (regsR 13 a b n)∧Ext h h':=by
 refine hcr_of (args:=[insV op a b n form,.int .i64 13]) mixed Tryz.func143 (by kernel_rfl) (t_isa_registers_r13_eq op a b n form) ?_
 unfold t_isa_registers_r13
 refine newB ?_
 intro g1 b1 e1 z1
 try simp only [add_box]
 repeat' (first
  | (refine loads_box b1 (_,()) rfl ?_; dsimp only [flat,unc,unc1,nA,cA])
  | (refine call_bool (below_hc _ _ _) ?_)
  | (refine call_bool (reaches_hc _ _ _) ?_)
  | (refine cond_mk (fun q=>?_) (fun q=>?_)))
 all_goals (refine ⟨?_,e1⟩; first | (simp_all [regsR,beqD]; done) | (simp_all [regsR,beqD] <;> simp [blw] <;> omega))
theorem num13_hc (h:Hp) (op a b n form:Int):HC Tryz.prog 144 #[insV op a b n form,.int .i64 13] h fun w h'=>w=.bool (nR 13 n form)∧Ext h h':=by
 refine hcr_of (args:=[insV op a b n form,.int .i64 13]) mixed Tryz.func144 (by kernel_rfl) (t_isa_number_n13_eq op a b n form) ?_
 unfold t_isa_number_n13
 refine newB ?_
 intro g1 b1 e1 z1
 try simp only [add_box]
 repeat' (first
  | (refine loads_box b1 (_,()) rfl ?_; dsimp only [flat,unc,unc1,nA,cA])
  | (refine call_bool (below_hc _ _ _) ?_)
  | (refine call_bool (reaches_hc _ _ _) ?_)
  | (refine cond_mk (fun q=>?_) (fun q=>?_)))
 all_goals (refine ⟨?_,e1⟩; first | (simp_all [nR,beqD]; done) | (simp_all [nR,beqD] <;> omega))
theorem registers_hc (h:Hp) (op a b n form:Int) {s:Nat} (h1:1≤s) (h2:s≤13):HC Tryz.prog 143 #[insV op a b n form,.int .i64 s] h fun w h'=>w=.bool (regsR s a b n)∧Ext h h':=by
 have hs:s=1∨s=2∨s=3∨s=4∨s=5∨s=6∨s=7∨s=8∨s=9∨s=10∨s=11∨s=12∨s=13:=by omega
 clear h1 h2
 rcases hs with rfl | rfl | rfl | rfl | rfl | rfl | rfl | rfl | rfl | rfl | rfl | rfl | rfl
 ·exact regs1_hc h op a b n form
 ·exact regs2_hc h op a b n form
 ·exact regs3_hc h op a b n form
 ·exact regs4_hc h op a b n form
 ·exact regs5_hc h op a b n form
 ·exact regs6_hc h op a b n form
 ·exact regs7_hc h op a b n form
 ·exact regs8_hc h op a b n form
 ·exact regs9_hc h op a b n form
 ·exact regs10_hc h op a b n form
 ·exact regs11_hc h op a b n form
 ·exact regs12_hc h op a b n form
 ·exact regs13_hc h op a b n form
theorem number_hc (h:Hp) (op a b n form:Int) {s:Nat} (h1:1≤s) (h2:s≤13):HC Tryz.prog 144 #[insV op a b n form,.int .i64 s] h fun w h'=>w=.bool (nR s n form)∧Ext h h':=by
 have hs:s=1∨s=2∨s=3∨s=4∨s=5∨s=6∨s=7∨s=8∨s=9∨s=10∨s=11∨s=12∨s=13:=by omega
 clear h1 h2
 rcases hs with rfl | rfl | rfl | rfl | rfl | rfl | rfl | rfl | rfl | rfl | rfl | rfl | rfl
 ·exact num1_hc h op a b n form
 ·exact num2_hc h op a b n form
 ·exact num3_hc h op a b n form
 ·exact num4_hc h op a b n form
 ·exact num5_hc h op a b n form
 ·exact num6_hc h op a b n form
 ·exact num7_hc h op a b n form
 ·exact num8_hc h op a b n form
 ·exact num9_hc h op a b n form
 ·exact num10_hc h op a b n form
 ·exact num11_hc h op a b n form
 ·exact num12_hc h op a b n form
 ·exact num13_hc h op a b n form
def Sm (n:Int):Prop:=-9223372036854775808≤n∧n≤9223372036854775807
theorem check_hc {h:Hp} (t:Tab h) (op a b n form:Int) (ho:Sm op) :
  HC Tryz.prog 116 #[insV op a b n form] h fun w h'=>w=.int .i64 (chkR ⟨op,a,b,n,form⟩)∧Ext h h':=by
 refine hcr_of (args:=[insV op a b n form]) mixed Tryz.func116 (by kernel_rfl) (t_isa_Check_eq op a b n form) ?_
 unfold t_isa_Check
 refine newB ?_
 intro g1 b1 e1 z1
 refine loads_box b1 (op,()) rfl ?_
 dsimp only [flat,unc,unc1,nA,cA]
 refine call_of (at_hc (t.keep e1 (by simp)) op ho.1 ho.2) ?_
 rintro _ g2 ⟨s,y,rfl,e2⟩
 refine ⟨(s,y,((shp op:Nat):Int),decide (shp op≠0),()),rfl,?_⟩
 dsimp only [flat,unc,unc1,nA,cA]
 refine newB ?_
 intro g3 b3 e3 z3
 refine stores_of b3 rfl (by simp) ?_
 intro g4 b4 k4 z4
 have b4:Box g4 g2.size 158 [.string s,.int .u8 y,.int .i64 (shp op:Nat)]:=b4
 have e4:=((e1.trans e2).trans e3).st k4 (by have:=e1.size; have:=e2.size; omega)
 have b1:=b1.keep ((e2.trans e3).st k4 (by have:=e2.size; omega)) (by simp)
 unfold chkR
 simp only [add_box]
 refine cond_mk (fun q=>?_) (fun q=>?_)
 ·have q:shp op=0:=by simpa using q
  exact ⟨by rw [if_pos q],e4⟩
 have q:¬ shp op=0:=by simpa using q
 rw [if_neg q]
 refine loads_box b1 (op,a,b,n,form,()) rfl ?_
 dsimp only [flat,unc,unc1,nA,cA]
 refine loads_box b4 (((shp op:Nat):Int),()) rfl ?_
 dsimp only [flat,unc,unc1,nA,cA]
 have hs:=shp_cases op
 refine call_of (registers_hc g4 op a b n form (s:=shp op) (by omega) (by omega)) ?_
 rintro _ g5 ⟨rfl,e5⟩
 refine ⟨(regsR (shp op) a b n,()),rfl,?_⟩
 dsimp only [flat,unc,unc1,nA,cA]
 have e45:=e4.trans e5
 refine cond_mk (fun q=>?_) (fun q=>?_)
 ·have q:regsR (shp op) a b n=false:=by simpa using q
  exact ⟨by rw [if_pos q],e45⟩
 have q:regsR (shp op) a b n=true:=by simpa using q
 rw [if_neg (by rw [q]; simp)]
 have b1:=b1.keep e5 (by simp)
 have b4:=b4.keep e5 (by simp)
 refine loads_box b1 (op,()) rfl ?_
 dsimp only [flat,unc,unc1,nA,cA]
 refine call_of (spans_hc (t.keep e45 (by simp)) op ho.1 ho.2) ?_
 rintro _ g6 ⟨rfl,e6⟩
 refine ⟨(spn op,()),rfl,?_⟩
 dsimp only [flat,unc,unc1,nA,cA]
 have e46:=e45.trans e6
 have b1:=b1.keep e6 (by simp)
 have b4:=b4.keep e6 (by simp)
 refine cond_mk (fun q=>?_) (fun q=>?_)
 ·have q:spn op=false:=by simpa using q
  refine loads_box b1 (form,()) rfl ?_
  dsimp only [flat,unc,unc1,nA,cA]
  refine cond_mk (fun r=>?_) (fun r=>?_)
  ·have r:¬ form=0:=by simpa using r
   exact ⟨by rw [q]; simp [r],e46⟩
  have r:form=0:=by simpa using r
  refine loads_box b1 (op,a,b,n,form,()) rfl ?_
  dsimp only [flat,unc,unc1,nA,cA]
  refine loads_box b4 (((shp op:Nat):Int),()) rfl ?_
  dsimp only [flat,unc,unc1,nA,cA]
  refine call_of (number_hc g6 op a b n form (s:=shp op) (by omega) (by omega)) ?_
  rintro _ g7 ⟨rfl,e7⟩
  refine ⟨(nR (shp op) n form,()),rfl,?_⟩
  dsimp only [flat,unc,unc1,nA,cA]
  refine cond_mk (fun p=>?_) (fun p=>?_)
  ·exact ⟨by rw [q]; simp_all,e46.trans e7⟩
  ·exact ⟨by rw [q]; simp_all,e46.trans e7⟩
 ·have q:spn op=true:=by simpa using q
  refine loads_box b1 (op,a,b,n,form,()) rfl ?_
  dsimp only [flat,unc,unc1,nA,cA]
  refine loads_box b4 (((shp op:Nat):Int),()) rfl ?_
  dsimp only [flat,unc,unc1,nA,cA]
  refine call_of (number_hc g6 op a b n form (s:=shp op) (by omega) (by omega)) ?_
  rintro _ g7 ⟨rfl,e7⟩
  refine ⟨(nR (shp op) n form,()),rfl,?_⟩
  dsimp only [flat,unc,unc1,nA,cA]
  refine cond_mk (fun p=>?_) (fun p=>?_)
  ·exact ⟨by rw [q]; simp_all,e46.trans e7⟩
  ·exact ⟨by rw [q]; simp_all,e46.trans e7⟩
def encI (p:Option Addr) (l c:Nat) (x:Itm):List Value:=[.int .i64 x.kind,.string x.name,.int .i64 x.inst.op,.int .i64 x.inst.a,.int .i64 x.inst.b,.int .i32 x.inst.n,.int .i64 x.inst.form,.slice p l c,.int .u32 x.e.num,.int .i64 x.n]
def itmV (p:Option Addr) (l c:Nat) (x:Itm):Value:=.agg (encI p l c x).toArray
structure LinAt (h:Hp) (p:Option Addr) (l:Nat) (x:Lin):Prop where
 vw:VwT h p l x.terms
 many:x.terms.length≤2^60
 names:∀ t,t∈x.terms→t.1.size≤maxLen
theorem LinAt.keep {h h':Hp} {p:Option Addr} {l:Nat} {x:Lin} (v:LinAt h p l x) (k:Ext h h'):LinAt h' p l x:=⟨v.vw.keep k (by simp),v.many,v.names⟩
theorem VwT.none (h:Hp):VwT h none 0 []:=⟨rfl,fun i hi=>absurd hi (by simp)⟩
theorem LinAt.none (h:Hp) (n:Nat):LinAt h none 0 ⟨[],n⟩:=⟨VwT.none h,by simp,by simp⟩
theorem linB_0 (x:Lin):linB x lin0=isZ x:=by
 unfold linB isZ lin0
 rw [Bool.and_comm]
def insRT (g k:Nat):T :=
 T.loads ⟨g,5,none⟩ [.int .i32] <| fun (n16:Int) =>
 cond (n16==(0:Int))
  (T.loads ⟨k,0,none⟩ [.int .i64,.int .i64,.int .i64,.int .i32,.int .i64] <| fun (n17:Int) (n18:Int) (n19:Int) (n20:Int) (n21:Int) =>
  T.call Tryz.prog 116 [.agg #[.int .i64 n17,.int .i64 n18,.int .i64 n19,.int .i32 n20,.int .i64 n21]] false [(false,[.int .i64])] <| fun (n22:Int) =>
  cond (n22==(0:Int))
  (T.loads ⟨g,7,none⟩ [.slice 109,.int .u32] <| fun (p23:Option Addr) (l24:Nat) (l25:Nat) (n26:Int) =>
  T.call Tryz.prog 46 [.agg #[.slice p23 l24 l25,.int .u32 n26]] false [(false,[.bool])] <| fun (b27:Bool) =>
  T.ret (.bool b27))
  (T.ret (.bool false)))
  (T.ret (.bool false))
def insST (g k:Nat):T :=
 T.loads ⟨k,0,none⟩ [.int .i64,.int .i64,.int .i64,.int .i32,.int .i64] <| fun (n16:Int) (n17:Int) (n18:Int) (n19:Int) (n20:Int) =>
 T.call Tryz.prog 116 [.agg #[.int .i64 n16,.int .i64 n17,.int .i64 n18,.int .i32 n19,.int .i64 n20]] false [(false,[.int .i64])] <| fun (n21:Int) =>
 cond (n21==(0:Int))
  (T.loads ⟨g,7,none⟩ [.slice 109,.int .u32] <| fun (p22:Option Addr) (l23:Nat) (l24:Nat) (n25:Int) =>
  T.call Tryz.prog 80 [.agg #[.slice p22 l23 l24,.int .u32 n25],.agg #[.slice none 0 0,.int .u32 (0:Int)]] false [(false,[.bool])] <| fun (b26:Bool) =>
  T.ret (.bool b26))
  (T.ret (.bool false))
def insC (i:Ins):List Value:=[.int .i64 i.op,.int .i64 i.a,.int .i64 i.b,.int .i32 i.n,.int .i64 i.form]
theorem insRT_of {L:Lp} {h0 h:Hp} (t:Tab h) {x:Itm} {p:Option Addr} {l c g k:Nat} {i:Ins} {e1 e2:TypeId} (b1:Box h g e1 (encI p l c x)) (b2:Box h k e2 (insC i)) (v:LinAt h p l x.e) (ho:Sm i.op) (e:Ext h0 h) :
  insRT g k L (fun w h'=>w=.bool (decide (x.inst.n=0) && decide (chkR i=0) && rtR none x.e.terms)∧Ext h0 h') h:=by
 unfold insRT
 refine loads_box b1 (x.inst.n,()) rfl ?_
 dsimp only [flat,unc,unc1,nA,cA]
 refine cond_mk (fun q=>?_) (fun q=>?_)
 ·have q:x.inst.n=0:=by simpa using q
  refine loads_box b2 (i.op,i.a,i.b,i.n,i.form,()) rfl ?_
  dsimp only [flat,unc,unc1,nA,cA]
  refine call_of (check_hc t i.op i.a i.b i.n i.form ho) ?_
  rintro _ g2 ⟨rfl,e2⟩
  refine ⟨(chkR i,()),rfl,?_⟩
  dsimp only [flat,unc,unc1,nA,cA]
  refine cond_mk (fun r=>?_) (fun r=>?_)
  ·have r:chkR i=0:=by simpa using r
   refine loads_box (b1.keep e2 (by simp)) ((p,l,c),(x.e.num:Int),()) rfl ?_
   dsimp only [flat,unc,unc1,nA,cA]
   refine call_of (right63_hc (c:=c) (v.keep e2).vw (by have:=v.many; omega) v.names) ?_
   rintro _ g3 ⟨rfl,e3⟩
   refine ⟨(rtR none x.e.terms,()),rfl,?_⟩
   exact ⟨by rw [decide_eq_true q,decide_eq_true r]; rfl,(e.trans e2).trans e3⟩
  ·have r:¬ chkR i=0:=by simpa using r
   exact ⟨by rw [decide_eq_false r,Bool.and_false]; rfl,e.trans e2⟩
 ·have q:¬ x.inst.n=0:=by simpa using q
  exact ⟨by rw [decide_eq_false q]; rfl,e⟩
theorem insST_of {L:Lp} {h0 h:Hp} (t:Tab h) {x:Itm} {p:Option Addr} {l c g k:Nat} {i:Ins} {e1 e2:TypeId} (b1:Box h g e1 (encI p l c x)) (b2:Box h k e2 (insC i)) (v:LinAt h p l x.e) (ho:Sm i.op) (e:Ext h0 h) :
  insST g k L (fun w h'=>w=.bool (decide (chkR i=0) && isZ x.e)∧Ext h0 h') h:=by
 unfold insST
 refine loads_box b2 (i.op,i.a,i.b,i.n,i.form,()) rfl ?_
 dsimp only [flat,unc,unc1,nA,cA]
 refine call_of (check_hc t i.op i.a i.b i.n i.form ho) ?_
 rintro _ g2 ⟨rfl,e2⟩
 refine ⟨(chkR i,()),rfl,?_⟩
 dsimp only [flat,unc,unc1,nA,cA]
 refine cond_mk (fun r=>?_) (fun r=>?_)
 ·have r:chkR i=0:=by simpa using r
  refine loads_box (b1.keep e2 (by simp)) ((p,l,c),(x.e.num:Int),()) rfl ?_
  dsimp only [flat,unc,unc1,nA,cA]
  refine call_of (same64_hc (c:=c) (d:=0) (y:=lin0) (v.keep e2).vw (VwT.none g2) v.many) ?_
  rintro _ g3 ⟨rfl,e3⟩
  refine ⟨(linB x.e lin0,()),rfl,?_⟩
  exact ⟨by rw [decide_eq_true r,linB_0]; rfl,(e.trans e2).trans e3⟩
 ·have r:¬ chkR i=0:=by simpa using r
  exact ⟨by rw [decide_eq_false r]; rfl,e.trans e2⟩
theorem instruction_hc {h:Hp} (t:Tab h) {x:Itm} {p:Option Addr} {l c:Nat} (v:LinAt h p l x.e) (ho:Sm x.inst.op) :
  HC Tryz.prog 78 #[itmV p l c x] h fun w h'=>w=.bool (insR x.inst x.e)∧Ext h h':=by
 refine hcr_of (args:=[itmV p l c x]) mixed Tryz.func78 (by kernel_rfl) (t_item_instruction_eq x.kind x.name x.inst.op x.inst.a x.inst.b x.inst.n x.inst.form p l c x.e.num x.n) ?_
 unfold t_item_instruction
 refine newB ?_
 intro g1 b1 e1 z1
 have b1:Box g1 h.size 96 (encI p l c x):=b1
 simp only [add_box]
 refine loads_box b1 (x.inst.op,()) rfl ?_
 dsimp only [flat,unc,unc1,nA,cA]
 refine call_of (at_hc (t.keep e1 (by simp)) x.inst.op ho.1 ho.2) ?_
 rintro _ g2 ⟨s,y,rfl,e2⟩
 refine ⟨(s,y,((shp x.inst.op:Nat):Int),decide (shp x.inst.op≠0),()),rfl,?_⟩
 dsimp only [flat,unc,unc1,nA,cA]
 refine newB ?_
 intro g3 b3 e3 z3
 refine stores_of b3 rfl (by simp) ?_
 intro g4 b4 k4 z4
 have b4:Box g4 g2.size 158 [.string s,.int .u8 y,.int .i64 (shp x.inst.op:Nat)]:=b4
 have s1:=e1.size
 have s2:=e2.size
 have e14:=(e2.trans e3).st k4 (by omega)
 have e4:=e1.trans e14
 have b1:=b1.keep e14 (by simp)
 unfold insR
 refine cond_mk (fun q=>?_) (fun q=>?_)
 ·have q:shp x.inst.op=0:=by simpa using q
  exact ⟨by rw [q]; rfl,e4⟩
 have q:shp x.inst.op≠0:=by simpa using q
 rw [decide_eq_true q,Bool.true_and]
 refine loads_box b1 (x.inst.form,()) rfl ?_
 dsimp only [flat,unc,unc1,nA,cA]
 refine cond_mk (fun r=>?_) (fun r=>?_)
 ·have r:¬ x.inst.form=0:=by simpa using r
  exact ⟨by rw [decide_eq_false r]; rfl,e4⟩
 have r:x.inst.form=0:=by simpa using r
 rw [decide_eq_true r,Bool.true_and]
 refine loads_box b1 (x.inst.op,x.inst.a,x.inst.b,x.inst.n,x.inst.form,()) rfl ?_
 dsimp only [flat,unc,unc1,nA,cA]
 refine newB ?_
 intro g5 b5 e5 z5
 refine stores_of b5 rfl (by simp) ?_
 intro g6 b6 k6 z6
 have b6:Box g6 g4.size 90 (insC x.inst):=b6
 have e46:=e5.st k6 (by omega)
 have e6:=e4.trans e46
 have b1:=b1.keep e46 (by simp)
 have b4:=b4.keep e46 (by simp)
 simp only [add_box]
 have hs:=shp_cases x.inst.op
 refine loads_box b4 (((shp x.inst.op:Nat):Int),()) rfl ?_
 dsimp only [flat,unc,unc1,nA,cA]
 generalize hB:(if wnt x.inst.op=true then decide (x.inst.n=0) && decide (chkR { x.inst with form:=if spn x.inst.op=true then 1 else 0 }=0) && rtR none x.e.terms else decide (chkR x.inst=0) && isZ x.e)=B
 have hF:{ x.inst with form:=0 }=x.inst:=by
  rcases hx:x.inst with ⟨a1,a2,a3,a4,a5⟩
  rw [hx] at r
  simp only at r
  rw [r]
 have hA:12≤shp x.inst.op→T.stores ⟨g4.size,4,none⟩ [.int .i64 1] (insRT h.size g4.size) [] (fun w h'=>w=.bool B∧Ext h h') g6:=by
  intro hh
  refine stores_of b6 rfl (by simp [insC]) ?_
  intro g7 b7 k7 z7
  have b7:Box g7 g4.size 90 (insC { x.inst with form:=1 }):=b7
  have e67:Ext g4 g7:=e46.st k7 (by omega)
  have e7:=e4.trans e67
  have hw:wnt x.inst.op=true:=decide_eq_true (by omega)
  have hp:spn x.inst.op=true:=decide_eq_true hh
  rw [if_pos hw,if_pos hp] at hB
  have:=insRT_of (L:=[]) (h0:=h) (t.keep e7 (by simp)) (b1.keep k7 (by simp; omega)) b7 (v.keep e7) ho e7
  rw [hB] at this
  exact this
 have hR:shp x.inst.op=10∨shp x.inst.op=11→insRT h.size g4.size [] (fun w h'=>w=.bool B∧Ext h h') g6:=by
  intro hh
  have hw:wnt x.inst.op=true:=decide_eq_true (by omega)
  have hp:¬ spn x.inst.op=true:=by unfold spn; rw [decide_eq_false (by omega)]; simp
  rw [if_pos hw,if_neg hp,hF] at hB
  have:=insRT_of (L:=[]) (h0:=h) (t.keep e6 (by simp)) b1 b6 (v.keep e6) ho e6
  rw [hB] at this
  exact this
 have hS:shp x.inst.op<10→insST h.size g4.size [] (fun w h'=>w=.bool B∧Ext h h') g6:=by
  intro hh
  have hw:¬ wnt x.inst.op=true:=by unfold wnt; rw [decide_eq_false (by omega)]; simp
  rw [if_neg hw] at hB
  have:=insST_of (L:=[]) (h0:=h) (t.keep e6 (by simp)) b1 b6 (v.keep e6) ho e6
  rw [hB] at this
  exact this
 clear hB
 refine cond_mk (fun q1=>?_) (fun q1=>?_)
 ·have q1:((shp x.inst.op:Nat):Int)=12:=by simpa using q1
  refine cond_mk (fun q2=>hA (by omega)) (fun q2=>?_)
  have q2:¬ ((shp x.inst.op:Nat):Int)=12:=by simpa using q2
  exact absurd q1 q2
 have q1:¬ ((shp x.inst.op:Nat):Int)=12:=by simpa using q1
 refine cond_mk (fun q2=>?_) (fun q2=>?_)
 ·have q2:((shp x.inst.op:Nat):Int)=13:=by simpa using q2
  exact hA (by omega)
 have q2:¬ ((shp x.inst.op:Nat):Int)=13:=by simpa using q2
 refine cond_mk (fun q3=>?_) (fun q3=>?_)
 ·have q3:((shp x.inst.op:Nat):Int)=10:=by simpa using q3
  refine cond_mk (fun q2=>hR (by omega)) (fun q4=>?_)
  have q4:¬ ((shp x.inst.op:Nat):Int)=10:=by simpa using q4
  exact absurd q3 q4
 have q3:¬ ((shp x.inst.op:Nat):Int)=10:=by simpa using q3
 refine cond_mk (fun q4=>?_) (fun q4=>?_)
 ·have q4:((shp x.inst.op:Nat):Int)=11:=by simpa using q4
  exact hR (by omega)
 have q4:¬ ((shp x.inst.op:Nat):Int)=11:=by simpa using q4
 exact hS (by omega)
end Go.Sx.Ob
