/- Contracts over heaps, and plain laws, for the functions that the laws of chapter 8 call, part 2:  Condition: as each statement says. -/
import Derived.Test.YtgnhjkofpmchpaaGreatDoorP1
import Derived.Test.YtgnhjkofpmchpaaGreatDoorILexV
import Derived.Test.YtgnhjkofpmchpaaGreatDoorSxE
import Derived.Test.YtgnhjkofpmchpaaGreatDoorILexW
set_option linter.unusedVariables false
set_option linter.unusedSimpArgs false
set_option linter.deprecated false
set_option maxRecDepth 100000
namespace Go.Sx
open Go.Proofs
theorem cmpN (h:Hp) (K:Value→Hp→Prop):semW Tryz.prog (cmpS (.neq) 148 (.tmp 17) (.const .nilIface) .nilIface .nilIface) h K=K (.bool false) h:=by kernel_rfl
theorem cmpN1 (h:Hp) (K:Value→Hp→Prop):semW Tryz.prog (cmpS (.neq) 148 (.tmp 17) (.const .nilIface) (.iface 176 (.int .i64 1)) .nilIface) h K=K (.bool true) h:=by kernel_rfl
theorem cmpN2 (h:Hp) (K:Value→Hp→Prop):semW Tryz.prog (cmpS (.neq) 148 (.tmp 17) (.const .nilIface) (.iface 176 (.int .i64 2)) .nilIface) h K=K (.bool true) h:=by kernel_rfl
theorem cmpM (h:Hp) (K:Value→Hp→Prop):semW Tryz.prog (cmpS (.neq) 148 (.tmp 37) (.const .nilIface) .nilIface .nilIface) h K=K (.bool false) h:=by kernel_rfl
theorem cmpM1 (a:Addr) (h:Hp) (K:Value→Hp→Prop):semW Tryz.prog (cmpS (.neq) 148 (.tmp 37) (.const .nilIface) (.iface 179 (.pointer (some a))) .nilIface) h K=K (.bool true) h:=by kernel_rfl
def okB (b:Nat) (l:List UInt8):Prop:=l≠[]∧valB b l<4294967296
def puPost (b:Nat) (l:List UInt8) (h:Hp) (v:Value) (h':Hp):Prop :=
 ((okB b l∧v=.tuple #[.int .u64 (valB b l),.nilIface])∨(¬ okB b l∧∃ n a,v=.tuple #[.int .u64 n,.iface 179 (.pointer (some a))]))∧Ext h h'
theorem parseUint10_hc (s:ByteArray) (h:Hp) (hs:s.size≤2^48) (hl:Laid h) (hd:∀ i,i<s.size→isDig (s.data.toList.getD i 0)=true) :
  HC Tryz.prog 82 #[.string s,.int .i64 10,.int .i64 32] h (puPost 10 s.data.toList h):=by
 refine hcr_of (args:=[.string s,.int .i64 10,.int .i64 32]) mixed Tryz.func82 (by kernel_rfl) (t_strconv_ParseUint_ten_eq s) ?_
 unfold t_strconv_ParseUint_ten
 refine call_of (puTen_hc s h hs hd) ?_
 rintro _ h1 ⟨rfl,e1⟩
 refine ⟨(((puR 10 s.data.toList).1:Int),(puR 10 s.data.toList).2,()),rfl,?_⟩
 show T.sem Tryz.prog (cmpS (.neq) 148 (.tmp 17) (.const .nilIface) (puR 10 s.data.toList).2 .nilIface) false [(false,[.bool])] _ _ _ _
 by_cases h0:s.data.toList=[]
 ·have hr:puR 10 s.data.toList=(0,.iface 176 (.int .i64 2)):=by unfold puR; rw [if_pos h0]
  have hno:¬ okB 10 s.data.toList:=fun ho=>ho.1 h0
  rw [hr]
  refine sem_bool (b:=true) (fun K' hk=>by rw [cmpN2]; exact hk) (cond_t rfl ?_)
  refine call_of (toError_s10_hc s h1 hs (hl.ext e1)) ?_
  rintro _ h2 ⟨⟨a,rfl⟩,e2⟩
  exact ⟨(.iface 179 (.pointer (some a)),()),rfl,.inr ⟨hno,_,a,rfl⟩,e1.trans e2⟩
 ·by_cases hv:valB 10 s.data.toList<4294967296
  ·have hr:puR 10 s.data.toList=(valB 10 s.data.toList,.nilIface):=by unfold puR; rw [if_neg h0,if_pos hv]
   rw [hr]
   refine sem_bool (b:=false) (fun K' hk=>by rw [cmpN]; exact hk) (cond_f rfl ?_)
   exact ⟨.inl ⟨⟨h0,hv⟩,rfl⟩,e1⟩
  ·have hr:puR 10 s.data.toList=(4294967295,.iface 176 (.int .i64 1)):=by unfold puR; rw [if_neg h0,if_neg hv]
   have hno:¬ okB 10 s.data.toList:=fun ho=>hv ho.2
   rw [hr]
   refine sem_bool (b:=true) (fun K' hk=>by rw [cmpN1]; exact hk) (cond_t rfl ?_)
   refine call_of (toError_r10_hc s h1 hs (hl.ext e1)) ?_
   rintro _ h2 ⟨⟨a,rfl⟩,e2⟩
   exact ⟨(.iface 179 (.pointer (some a)),()),rfl,.inr ⟨hno,_,a,rfl⟩,e1.trans e2⟩
theorem valB16_small:∀ (l:List UInt8) (n:Nat),(∀ c∈l,dv c<16)→l.foldl (fun n c=>n*16+dv c) n<(n+1)*16^l.length
 | [],n,_=>by simp
 | c::l,n,hd=>by
  rw [List.foldl_cons,List.length_cons,Nat.pow_succ]
  have h1:=valB16_small l (n*16+dv c) (fun x hx=>hd x (by simp [hx]))
  have h2:=hd c (by simp)
  have h3:(n*16+dv c+1)*16^l.length≤((n+1)*16)*16^l.length:=Nat.mul_le_mul_right _ (by omega)
  have h4:((n+1)*16)*16^l.length=(n+1)*(16^l.length*16):=by rw [Nat.mul_assoc,Nat.mul_comm 16]
  omega
theorem parseUint16_hc (s:ByteArray) (h:Hp) (hs:s.size≤8) (hl:Laid h) (hd:∀ i,i<s.size→isHex (s.data.toList.getD i 0)=true) :
  HC Tryz.prog 82 #[.string s,.int .i64 16,.int .i64 32] h (puPost 16 s.data.toList h):=by
 refine hcr_of (args:=[.string s,.int .i64 16,.int .i64 32]) mixed Tryz.func82 (by kernel_rfl) (t_strconv_ParseUint_hex_eq s) ?_
 unfold t_strconv_ParseUint_hex
 have hsz:s.data.toList.length=s.size:=by simp
 have hv:valB 16 s.data.toList<4294967296:=by
  have h1:=valB16_small s.data.toList 0 (fun c hc=>by
   obtain ⟨i,hi,rfl⟩:=List.getElem_of_mem hc
   have:=hd i (by omega)
   simp only [List.getD,List.getElem?_eq_getElem hi,Option.getD_some] at this
   exact (dv_hex _ this).2.2)
  have h2:16^s.data.toList.length≤16^8:=Nat.pow_le_pow_right (by omega) (by omega)
  have h3:(16:Nat)^8=4294967296:=rfl
  unfold valB
  omega
 refine call_of (puHex_hc s h (by omega) hd) ?_
 rintro _ h1 ⟨rfl,e1⟩
 refine ⟨(((puR 16 s.data.toList).1:Int),(puR 16 s.data.toList).2,()),rfl,?_⟩
 show T.sem Tryz.prog (cmpS (.neq) 148 (.tmp 17) (.const .nilIface) (puR 16 s.data.toList).2 .nilIface) false [(false,[.bool])] _ _ _ _
 by_cases h0:s.data.toList=[]
 ·have hr:puR 16 s.data.toList=(0,.iface 176 (.int .i64 2)):=by unfold puR; rw [if_pos h0]
  have hno:¬ okB 16 s.data.toList:=fun ho=>ho.1 h0
  rw [hr]
  refine sem_bool (b:=true) (fun K' hk=>by rw [cmpN2]; exact hk) (cond_t rfl ?_)
  refine call_of (toError_s16_hc s h1 (by omega) (hl.ext e1)) ?_
  rintro _ h2 ⟨⟨a,rfl⟩,e2⟩
  exact ⟨(.iface 179 (.pointer (some a)),()),rfl,.inr ⟨hno,_,a,rfl⟩,e1.trans e2⟩
 ·have hr:puR 16 s.data.toList=(valB 16 s.data.toList,.nilIface):=by unfold puR; rw [if_neg h0,if_pos hv]
  rw [hr]
  refine sem_bool (b:=false) (fun K' hk=>by rw [cmpN]; exact hk) (cond_f rfl ?_)
  exact ⟨.inl ⟨⟨h0,hv⟩,rfl⟩,e1⟩
theorem ext_list (s:ByteArray) (i j:Nat):(s.extract i j).data.toList=(s.data.toList.drop i).take (j-i):=by
 rw [ByteArray.data_extract,Array.toList_extract,List.extract_eq_take_drop]
theorem ext_size (s:ByteArray) (i j:Nat):(s.extract i j).size=min j s.size-i:=by simp
theorem beq_dec (a b:List UInt8):(a==b)=decide (a=b):=by
 by_cases h:a=b <;> simp [h]
theorem val16_lt {l:List UInt8} (hl:l.length≤8) (hd:∀ i,i<l.length→isHex (l.getD i 0)=true):valB 16 l<4294967296:=by
 have h1:=valB16_small l 0 (fun c hc=>by
  obtain ⟨i,hi,rfl⟩:=List.getElem_of_mem hc
  have:=hd i hi
  simp only [List.getD,List.getElem?_eq_getElem hi,Option.getD_some] at this
  exact (dv_hex _ this).2.2)
 have h2:16^l.length≤16^8:=Nat.pow_le_pow_right (by omega) (by omega)
 have h3:(16:Nat)^8=4294967296:=rfl
 unfold valB
 omega
theorem getD_take {l:List UInt8} {n i:Nat} (hi:i<n):(l.take n).getD i 0=l.getD i 0:=by
 rw [List.getD_eq_getElem?_getD,List.getElem?_take,if_pos hi,← List.getD_eq_getElem?_getD]
theorem hasPrefix0_hc (s t:ByteArray) (h:Hp):HCp Tryz.prog 99 [.string s,.string t] h (.bool (decide (s.data.toList.take t.size=t.data.toList))):=by
 refine hcp_of mixed Tryz.func99 (by kernel_rfl) (t_internal_stringslite_HasPrefix_eq s t) ?_
 unfold t_internal_stringslite_HasPrefix
 have hsz:s.data.toList.length=s.size:=by simp
 have htz:t.data.toList.length=t.size:=by simp
 refine cond_mk (fun h1=>?_) (fun h1=>?_)
 ·have h1:=of_decide_eq_true h1
  refine need_of ⟨by omega,by omega,by omega⟩ ⟨?_,rfl⟩
  congr 1
  rw [ByteArray.toList_eq,ByteArray.toList_eq,ext_list,beq_dec,List.drop_zero,show Int.toNat (t.size:Int)-0=t.size by omega]
 ·have h1:=of_decide_eq_false h1
  refine ⟨?_,rfl⟩
  congr 1
  symm
  refine decide_eq_false fun he=>?_
  have:=congrArg List.length he
  rw [List.length_take] at this
  omega
theorem hasPrefix_hc (s t:ByteArray) (h:Hp):HCp Tryz.prog 81 [.string s,.string t] h (.bool (decide (s.data.toList.take t.size=t.data.toList))):=by
 refine hcp_of mixed Tryz.func81 (by kernel_rfl) (t_strings_HasPrefix_eq s t) ?_
 exact call_bool (hasPrefix0_hc s t h) ⟨rfl,rfl⟩
def hexesL:List UInt8:=[48,49,50,51,52,53,54,55,56,57,97,98,99,100,101,102]
theorem hexes_is (c:UInt8):hexesL.contains c=isHex c:=all_bytes (fun c=>hexesL.contains c) isHex (by decide +kernel) c
def numL (l:List UInt8):Nat × Nat :=
 if l.take 2=[48,120] then
  (if 8<rowN (l.drop 2) hexesL∨rowN (l.drop 2) hexesL=0 then (0,0) else (2+rowN (l.drop 2) hexesL,valB 16 ((l.drop 2).take (rowN (l.drop 2) hexesL))))
 else
  (if (1<rowN l digitsL∧l.getD 0 0=48)∨rowN l digitsL=0∨4294967296≤valB 10 (l.take (rowN l digitsL)) then (0,0) else (rowN l digitsL,valB 10 (l.take (rowN l digitsL))))
theorem rowN_get {s set:List UInt8} {i:Nat} (hi:i<rowN s set):set.contains (s.getD i 0)=true:=by
 have hle:=rowN_le s set
 exact (rowN_step s set i (by omega) (by omega)).1 hi
theorem number_hc (s:ByteArray) (h:Hp) (hs:s.size≤2^48) (hl:Laid h) :
  HC Tryz.prog 55 #[.string s] h fun v h'=>v=.tuple #[.int .i64 (numL s.data.toList).1,.int .u32 (numL s.data.toList).2]∧Ext h h':=by
 refine hcr_of (args:=[.string s]) mixed Tryz.func55 (by kernel_rfl) (t_lex_number_eq s) ?_
 unfold t_lex_number numL
 have hsz:s.data.toList.length=s.size:=by simp
 have gd:(⟨#[48,49,50,51,52,53,54,55,56,57]⟩:ByteArray).data.toList=digitsL:=rfl
 have gh:(⟨#[48,49,50,51,52,53,54,55,56,57,97,98,99,100,101,102]⟩:ByteArray).data.toList=hexesL:=rfl
 have gp:(⟨#[48,120]⟩:ByteArray).data.toList=[48,120]:=rfl
 refine call_int (row_hc s _ h (by omega)) ?_
 rw [gd]
 have hr:=rowN_le s.data.toList digitsL
 generalize hn:rowN s.data.toList digitsL=n at hr ⊢
 refine call_bool (hasPrefix_hc s _ h) ?_
 rw [gp]
 refine cond_mk (fun h1=>?_) (fun h1=>?_)
 ·have h1:s.data.toList.take 2=[48,120]:=of_decide_eq_true h1
  rw [if_pos h1]
  have h2:2≤s.size:=by
   have:=congrArg List.length h1
   rw [List.length_take] at this
   simp at this; omega
  refine need_of ⟨by omega,by omega,by omega⟩ ?_
  have he:(s.extract 2 (Int.toNat (s.size:Int))).data.toList=s.data.toList.drop 2:=by
   rw [ext_list]
   exact List.take_of_length_le (by simp)
  refine call_int (row_hc _ _ h (by rw [ext_size]; omega)) ?_
  rw [gh,he]
  have hr2:=rowN_le (s.data.toList.drop 2) hexesL
  have hg2:=fun i=>@rowN_get (s.data.toList.drop 2) hexesL i
  rw [List.length_drop] at hr2
  generalize rowN (s.data.toList.drop 2) hexesL=m at hr2 hg2 ⊢
  refine cond_mk (fun h3=>?_) (fun h3=>?_)
  ·have h3:=of_decide_eq_true h3
   rw [if_pos (.inl (by omega))]
   exact ⟨rfl,Ch.refl _ _⟩
  ·have h3:=of_decide_eq_false h3
   have hw:IntKind.wrap .i64 (2+(m:Int))=2+(m:Int):=wrap_i64 (by omega) (by omega)
   rw [hw]
   refine need_of ⟨by omega,by omega,by omega⟩ ?_
   have ht:Int.toNat (2+(m:Int))=2+m:=by omega
   rw [ht]
   have he2:(s.extract 2 (2+m)).data.toList=(s.data.toList.drop 2).take m:=by
    rw [ext_list,show 2+m-2=m by omega]
   have hsm:(s.extract 2 (2+m)).size=m:=by rw [ext_size]; omega
   refine call_of (parseUint16_hc _ h (by omega) hl (fun i hi=>?_)) ?_
   ·rw [hsm] at hi
    have:=hg2 i hi
    rw [hexes_is] at this
    rw [he2]
    rw [getD_take hi]
    exact this
   ·rintro v h' ⟨hv,e1⟩
    rw [he2] at hv
    rcases hv with ⟨ho,rfl⟩ | ⟨hno,nn,a,rfl⟩
    ·have hm0:m≠0:=fun hm=>ho.1 (by rw [hm]; rfl)
     refine ⟨((valB 16 ((s.data.toList.drop 2).take m):Int),.nilIface,()),rfl,?_⟩
     refine sem_bool (b:=false) (fun K' hk=>by rw [cmpM]; exact hk) (cond_f rfl ?_)
     rw [if_neg (by omega)]
     have:=ho.2
     refine ⟨?_,e1⟩
     rw [show IntKind.wrap .u32 (valB 16 ((s.data.toList.drop 2).take m):Int)=(valB 16 ((s.data.toList.drop 2).take m):Int) from wrap_u32 (by omega) (by omega)]
     simp
    ·refine ⟨(nn,.iface 179 (.pointer (some a)),()),rfl,?_⟩
     refine sem_bool (b:=true) (fun K' hk=>by rw [cmpM1]; exact hk) (cond_t rfl ?_)
     have hm0:m=0:=by
      rcases Nat.eq_zero_or_pos m with hm | hm
      ·exact hm
      ·refine (hno ⟨fun hh=>?_,?_⟩).elim
       ·have:=congrArg List.length hh
        rw [List.length_take,List.length_drop] at this
        simp at this; omega
       ·refine val16_lt (by rw [List.length_take]; omega) (fun i hi=>?_)
        rw [List.length_take] at hi
        rw [getD_take (by omega),← hexes_is]
        exact hg2 i (by omega)
     rw [if_pos (.inr hm0)]
     exact ⟨rfl,e1⟩
 ·have h1:¬ s.data.toList.take 2=[48,120]:=of_decide_eq_false h1
  rw [if_neg h1]
  have hg:=fun i=>@rowN_get s.data.toList digitsL i
  rw [hn] at hg
  have hw:IntKind.wrap .i64 (0+(n:Int))=(n:Int):=by rw [Int.zero_add]; exact wrap_i64 (by omega) (by omega)
  have he2:(s.extract 0 n).data.toList=s.data.toList.take n:=by rw [ext_list,List.drop_zero,Nat.sub_zero]
  have hsm:(s.extract 0 n).size=n:=by rw [ext_size]; omega
  have hp:=parseUint10_hc (s.extract 0 n) h (by omega) hl (fun i hi=>by
   rw [hsm] at hi
   rw [he2,getD_take hi,← digits_is]
   exact hg i hi)
  have main:¬ (1<n∧s.data.toList.getD 0 0=48)→T.need (((0:Int)≤(0:Int))∧(((0:Int)≤(IntKind.wrap .i64 ((0:Int)+n)))∧((IntKind.wrap .i64 ((0:Int)+n))≤(s.size:Int)))) (
    T.call Tryz.prog 82 [.string (ByteArray.extract s 0 (Int.toNat (IntKind.wrap .i64 ((0 : Int) + n)))), .int .i64 (10 : Int), .int .i64 (32 : Int)] true [(false, [.int .u64]), (false, [.interface #[("Error", 228)]])] <| fun (n3 : Int) (v4 : Value) =>
    T.sem Tryz.prog (Sx.cmpS (BinOp.neq) 148 (Operand.tmp 37) (Operand.const Value.nilIface) v4 .nilIface) false [(false,[.bool])] <| fun (b5:Bool) =>
    cond b5
     (T.ret (.tuple #[.int .i64 (0:Int),.int .u32 (0:Int)]))
     (T.ret (.tuple #[.int .i64 (IntKind.wrap .i64 ((0:Int)+n)),.int .u32 (IntKind.wrap .u32 n3)]))) []
    (fun v h'=>v=.tuple #[.int .i64 ((if (1<n∧s.data.toList.getD 0 0=48)∨n=0∨4294967296≤valB 10 (s.data.toList.take n) then (0,0) else (n,valB 10 (s.data.toList.take n)):Nat × Nat).1:Int),.int .u32 ((if (1<n∧s.data.toList.getD 0 0=48)∨n=0∨4294967296≤valB 10 (s.data.toList.take n) then (0,0) else (n,valB 10 (s.data.toList.take n)):Nat × Nat).2:Int)]∧Ext h h') h:=by
   intro hz
   rw [hw]
   refine need_of ⟨by omega,by omega,by omega⟩ ?_
   rw [show Int.toNat (n:Int)=n by omega]
   refine call_of hp ?_
   rintro v h' ⟨hv,e1⟩
   rw [he2] at hv
   have hnil:s.data.toList.take n=[]↔n=0:=by
    constructor
    ·intro hh
     have:=congrArg List.length hh
     rw [List.length_take,Nat.min_eq_left (by omega)] at this
     exact this
    ·intro hh; rw [hh]; rfl
   rcases hv with ⟨ho,rfl⟩ | ⟨hno,nn,a,rfl⟩
   ·have h5:n≠0:=fun hh=>ho.1 (hnil.2 hh)
    have h6:=ho.2
    refine ⟨((valB 10 (s.data.toList.take n):Int),.nilIface,()),rfl,?_⟩
    refine sem_bool (b:=false) (fun K' hk=>by rw [cmpM]; exact hk) (cond_f rfl ?_)
    rw [if_neg (by intro hh; rcases hh with hh | hh | hh <;> first | exact hz hh | omega)]
    refine ⟨?_,e1⟩
    rw [show IntKind.wrap .u32 (valB 10 (s.data.toList.take n):Int)=(valB 10 (s.data.toList.take n):Int) from wrap_u32 (by omega) (by omega)]
   ·refine ⟨(nn,.iface 179 (.pointer (some a)),()),rfl,?_⟩
    refine sem_bool (b:=true) (fun K' hk=>by rw [cmpM1]; exact hk) (cond_t rfl ?_)
    have h7:n=0∨4294967296≤valB 10 (s.data.toList.take n):=by
     by_cases h8:n=0
     ·exact .inl h8
     ·refine .inr ?_
      rcases Nat.lt_or_ge (valB 10 (s.data.toList.take n)) 4294967296 with h9 | h9
      ·exact (hno ⟨fun hh=>h8 (hnil.1 hh),h9⟩).elim
      ·exact h9
    rw [if_pos (.inr h7)]
    exact ⟨rfl,e1⟩
  refine cond_mk (fun h3=>?_) (fun h3=>?_)
  ·have h3:=of_decide_eq_true h3
   refine need_of ⟨by omega,by omega⟩ ?_
   have e0:sbyte s 0=cN (s.data.toList.getD 0 0):=sbyte_cN s 0
   rw [e0]
   refine cond_mk (fun h4=>?_) (fun h4=>?_)
   ·have h4:=eq_of_beq h4
    have h5:s.data.toList.getD 0 0=48:=by
     unfold cN at h4
     exact UInt8.toNat_inj.1 (by show _=48; omega)
    rw [if_pos (.inl ⟨by omega,h5⟩)]
    exact ⟨rfl,Ch.refl _ _⟩
   ·have h4:=ne_of_beq_false h4
    exact main fun hh=>h4 (by rw [hh.2]; rfl)
  ·have h3:=of_decide_eq_false h3
   exact main fun hh=>h3 (by omega)
structure Tok where
 kind:Nat
 text:ByteArray
 num:Nat
 at_:Nat
def enc (t:Tok):List Value:=[.int .i64 t.kind,.string t.text,.int .u32 t.num,.int .i64 t.at_]
def blanksL:List UInt8:=[9,13,32]
def gluedL:List UInt8:=lettersL++digitsL
def signsL:List UInt8:=[58,44,40,41,43,45,42,61]
inductive Step where
 | stop
 | wrong (at_:Nat)
 | tok (t:Tok) (next:Nat)
def lexAt (s:ByteArray) (a:Nat):Step :=
 if a=s.size then .stop
 else if s.data.toList.getD a 0=59 then .stop
 else if isLet (s.data.toList.getD a 0)=true then
  if 32<rowN (s.data.toList.drop a) gluedL then .wrong a else .tok ⟨1,s.extract a (a+rowN (s.data.toList.drop a) gluedL),0,a⟩ (a+rowN (s.data.toList.drop a) gluedL)
 else if isDig (s.data.toList.getD a 0)=true then
  if (numL (s.data.toList.drop a)).1=0∨0<rowN (s.data.toList.drop (a+(numL (s.data.toList.drop a)).1)) gluedL then .wrong a
  else .tok ⟨2,s.extract a (a+(numL (s.data.toList.drop a)).1),(numL (s.data.toList.drop a)).2,a⟩ (a+(numL (s.data.toList.drop a)).1)
 else if s.data.toList.getD a 0=39 then
  if s.size<a+3∨(s.data.toList.getD (a+1) 0).toNat<32∨126<(s.data.toList.getD (a+1) 0).toNat∨s.data.toList.getD (a+1) 0=39∨s.data.toList.getD (a+2) 0≠39 then .wrong a
  else .tok ⟨2,s.extract a (a+3),(s.data.toList.getD (a+1) 0).toNat,a⟩ (a+3)
 else if signsL.contains (s.data.toList.getD a 0)=true then .tok ⟨3,s.extract a (a+1),0,a⟩ (a+1)
 else .wrong a
def lexStep (s:ByteArray) (k:Nat):Step:=lexAt s (k+rowN (s.data.toList.drop k) blanksL)
def lexF (s:ByteArray):Nat→Nat→List Tok→List Tok × Nat × Nat
 | 0,_,acc=>(acc,0,0)
 | f+1,k,acc =>
  match lexStep s k with
  | .stop=>(acc,0,0)
  | .wrong a=>([],a,20)
  | .tok t k'=>lexF s f k' (acc++[t])
def lexS (s:ByteArray):List Tok × Nat × Nat:=lexF s (s.size+1) 0 []
theorem numL_le (l:List UInt8):(numL l).1≤l.length∧(numL l).2<4294967296:=by
 unfold numL
 split
 ·rename_i h
  have h2:=congrArg List.length h
  rw [List.length_take] at h2
  simp only [List.length_cons,List.length_nil] at h2
  have h3:=rowN_le (l.drop 2) hexesL
  rw [List.length_drop] at h3
  split
  ·simp
  ·rename_i h4
   refine ⟨by simp only; omega,?_⟩
   refine val16_lt (by rw [List.length_take]; omega) (fun i hi=>?_)
   rw [List.length_take] at hi
   rw [getD_take (by omega),← hexes_is]
   exact rowN_get (by omega)
 ·have h3:=rowN_le l digitsL
  split
  ·simp
  ·rename_i h4
   exact ⟨h3,by simp only; omega⟩
theorem lexF_tok {s:ByteArray} {f k k':Nat} {acc:List Tok} {t:Tok} (h:lexStep s k=.tok t k'):lexF s (f+1) k acc=lexF s f k' (acc++[t]):=by
 show (match lexStep s k with
  | .stop=>(acc,0,0)
  | .wrong a=>([],a,20)
  | .tok t k'=>lexF s f k' (acc++[t]))=_
 rw [h]
theorem lexF_stop {s:ByteArray} {f k:Nat} {acc:List Tok} (h:lexStep s k=.stop):lexF s (f+1) k acc=(acc,0,0):=by
 show (match lexStep s k with
  | .stop=>(acc,0,0)
  | .wrong a=>([],a,20)
  | .tok t k'=>lexF s f k' (acc++[t]))=_
 rw [h]
theorem lexF_wrong {s:ByteArray} {f k a:Nat} {acc:List Tok} (h:lexStep s k=.wrong a):lexF s (f+1) k acc=([],a,20):=by
 show (match lexStep s k with
  | .stop=>(acc,0,0)
  | .wrong a=>([],a,20)
  | .tok t k'=>lexF s f k' (acc++[t]))=_
 rw [h]
theorem lexAt_tok {s:ByteArray} {a k':Nat} {t:Tok} (ha:a≤s.size) (h:lexAt s a=.tok t k'):a<k'∧k'≤s.size∧t.at_=a∧t.text=s.extract a k':=by
 have hsz:s.data.toList.length=s.size:=by simp
 unfold lexAt at h
 split at h
 ·cases h
 split at h
 ·cases h
 have hlen:(s.data.toList.drop a).length=s.size-a:=by rw [List.length_drop,hsz]
 split at h
 ·rename_i h1 h2 h3
  split at h
  ·cases h
  ·cases h
   have h5:=rowN_le (s.data.toList.drop a) gluedL
   have h6:=(rowN_pos (s:=s.data.toList.drop a) (set:=gluedL) (by omega)).2 (by
    rw [show (s.data.toList.drop a).getD 0 0=s.data.toList.getD a 0 from by simp [List.getD]]
    show (lettersL++digitsL).contains _=true
    rw [glued_is,h3]; rfl)
   exact ⟨by omega,by omega,rfl,rfl⟩
 split at h
 ·split at h
  ·cases h
  ·cases h
   have h5:=(numL_le (s.data.toList.drop a)).1
   exact ⟨by omega,by omega,rfl,rfl⟩
 split at h
 ·split at h
  ·cases h
  ·cases h
   exact ⟨by omega,by omega,rfl,rfl⟩
 split at h
 ·cases h
  exact ⟨by omega,by omega,rfl,rfl⟩
 ·cases h
inductive LexD where
 | stop
 | wrong
 | tok (kind len num:Nat)
def lexD (D:List UInt8):LexD :=
 if D=[] then .stop
 else if D.getD 0 0=59 then .stop
 else if isLet (D.getD 0 0)=true then
  if 32<rowN D gluedL then .wrong else .tok 1 (rowN D gluedL) 0
 else if isDig (D.getD 0 0)=true then
  if (numL D).1=0∨0<rowN (D.drop (numL D).1) gluedL then .wrong else .tok 2 (numL D).1 (numL D).2
 else if D.getD 0 0=39 then
  if D.length<3∨(D.getD 1 0).toNat<32∨126<(D.getD 1 0).toNat∨D.getD 1 0=39∨D.getD 2 0≠39 then .wrong
  else .tok 2 3 (D.getD 1 0).toNat
 else if signsL.contains (D.getD 0 0)=true then .tok 3 1 0
 else .wrong
def mkStep (s:ByteArray) (a:Nat):LexD→Step
 | .stop=>.stop
 | .wrong=>.wrong a
 | .tok k n m=>.tok ⟨k,s.extract a (a+n),m,a⟩ (a+n)
theorem getD_drop' (l:List UInt8) (a j:Nat):(l.drop a).getD j 0=l.getD (a+j) 0:=by
 simp [List.getD_eq_getElem?_getD,List.getElem?_drop]
theorem lexAt_lexD (s:ByteArray) (a:Nat) (ha:a≤s.size):lexAt s a=mkStep s a (lexD (s.data.toList.drop a)):=by
 unfold lexAt lexD
 have hsz:s.data.toList.length=s.size:=by simp
 simp only [getD_drop',Nat.add_zero,List.drop_drop,List.length_drop,hsz]
 by_cases h1:a=s.size
 ·rw [if_pos h1,if_pos (List.drop_eq_nil_of_le (by omega))]; rfl
 have h1':¬ s.data.toList.drop a=[]:=fun hh=>h1 (by have:=List.drop_eq_nil_iff.1 hh; omega)
 rw [if_neg h1,if_neg h1']
 by_cases h2:s.data.toList.getD a 0=59
 ·rw [if_pos h2,if_pos h2]; rfl
 rw [if_neg h2,if_neg h2]
 by_cases h3:isLet (s.data.toList.getD a 0)=true
 ·rw [if_pos h3,if_pos h3]
  split <;> rfl
 rw [if_neg h3,if_neg h3]
 by_cases h4:isDig (s.data.toList.getD a 0)=true
 ·rw [if_pos h4,if_pos h4]
  split <;> rfl
 rw [if_neg h4,if_neg h4]
 by_cases h5:s.data.toList.getD a 0=39
 ·rw [if_pos h5,if_pos h5]
  by_cases h6:s.size<a+3
  ·rw [if_pos (.inl h6),if_pos (.inl (by omega))]; rfl
  ·by_cases h7:(s.data.toList.getD (a+1) 0).toNat<32∨126<(s.data.toList.getD (a+1) 0).toNat∨s.data.toList.getD (a+1) 0=39∨s.data.toList.getD (a+2) 0≠39
   ·rw [if_pos (.inr h7),if_pos (.inr h7)]; rfl
   ·rw [if_neg (by intro hh; rcases hh with hh | hh; exact h6 hh; exact h7 hh),if_neg (by intro hh; rcases hh with hh | hh; omega; exact h7 hh)]; rfl
 rw [if_neg h5,if_neg h5]
 split <;> rfl
theorem takeWhile_all {p:UInt8→Bool}:∀ (l:List UInt8) {c:UInt8},c∈l.takeWhile p→p c=true
 | [],c,h=>by simp at h
 | d::l,c,h=>by
  rw [List.takeWhile_cons] at h
  cases hd:p d with
  | false=>rw [hd] at h; simp at h
  | true =>
   rw [hd] at h
   simp only [if_true,List.mem_cons] at h
   rcases h with rfl | h
   ·exact hd
   ·exact takeWhile_all l h
theorem rowN_take_append {set D E:List UInt8} (hE:rowN E set=0):rowN (D.take (rowN D set)++E) set=rowN D set:=by
 unfold rowN at hE ⊢
 have h1:E.takeWhile (fun c=>set.contains c)=[]:=List.eq_nil_of_length_eq_zero hE
 have h2:D.take (D.takeWhile fun c=>set.contains c).length=D.takeWhile fun c=>set.contains c:=(List.prefix_iff_eq_take.1 (List.takeWhile_prefix _)).symm
 rw [h2,List.takeWhile_append_of_pos,h1,List.append_nil]
 exact fun c hc=>takeWhile_all D hc
theorem rowN_zero {set D:List UInt8}:rowN D set=0↔∀ c r,D=c::r→set.contains c=false:=by
 unfold rowN
 cases D with
 | nil=>simp
 | cons c r =>
  simp only [List.takeWhile_cons,List.cons.injEq,and_imp]
  cases h:set.contains c with
  | false=>simp only [Bool.false_eq_true,if_false,List.length_nil,true_iff]; rintro _ _ rfl rfl; exact h
  | true=>simp only [if_true,List.length_cons,Nat.add_one_ne_zero,false_iff]; intro hh; have:=hh c r rfl rfl; rw [h] at this; cases this
theorem digits_glued (c:UInt8) (h:gluedL.contains c=false):digitsL.contains c=false:=by
 have:=all_bytes (fun c=>gluedL.contains c || !digitsL.contains c) (fun _=>true) (by decide +kernel) c
 simp only [h,Bool.false_or,Bool.not_eq_true'] at this
 exact this
theorem hexes_glued (c:UInt8) (h:gluedL.contains c=false):hexesL.contains c=false:=by
 have:=all_bytes (fun c=>gluedL.contains c || !hexesL.contains c) (fun _=>true) (by decide +kernel) c
 simp only [h,Bool.false_or,Bool.not_eq_true'] at this
 exact this
theorem rowN_digits0 {E:List UInt8} (h:rowN E gluedL=0):rowN E digitsL=0:=rowN_zero.2 fun c r he=>digits_glued c (rowN_zero.1 h c r he)
theorem rowN_hexes0 {E:List UInt8} (h:rowN E gluedL=0):rowN E hexesL=0:=rowN_zero.2 fun c r he=>hexes_glued c (rowN_zero.1 h c r he)
theorem numL_local {D E:List UInt8} (h0:(numL D).1≠0) (hE:rowN E gluedL=0):numL (D.take (numL D).1++E)=numL D:=by
 by_cases h1:D.take 2=[48,120]
 ·have hD:numL D=if 8<rowN (D.drop 2) hexesL∨rowN (D.drop 2) hexesL=0 then (0,0) else (2+rowN (D.drop 2) hexesL,valB 16 ((D.drop 2).take (rowN (D.drop 2) hexesL))):=by
   unfold numL; rw [if_pos h1]
  have hlen:2≤D.length:=by
   have:=congrArg List.length h1
   rw [List.length_take] at this
   simp at this; omega
  by_cases h2:8<rowN (D.drop 2) hexesL∨rowN (D.drop 2) hexesL=0
  ·rw [if_pos h2] at hD
   rw [hD] at h0
   exact (h0 rfl).elim
  ·rw [if_neg h2] at hD
   rw [hD]
   have hr:=rowN_le (D.drop 2) hexesL
   have hloc:=rowN_take_append (set:=hexesL) (D:=D.drop 2) (rowN_hexes0 hE)
   generalize rowN (D.drop 2) hexesL=r at *
   simp only
   have e1:D.take (2+r)=[48,120]++(D.drop 2).take r:=by
    rw [← h1,List.take_add]
   rw [e1,List.append_assoc]
   unfold numL
   rw [if_pos (by rfl)]
   have e2:([48,120]++((D.drop 2).take r++E)).drop 2=(D.drop 2).take r++E:=rfl
   rw [e2,hloc,if_neg h2]
   have e3:((D.drop 2).take r++E).take r=(D.drop 2).take r:=by
    rw [List.take_append_of_le_length (by rw [List.length_take]; omega),List.take_take,Nat.min_self]
   rw [e3]
 ·have hD:numL D=if (1<rowN D digitsL∧D.getD 0 0=48)∨rowN D digitsL=0∨4294967296≤valB 10 (D.take (rowN D digitsL)) then (0,0) else (rowN D digitsL,valB 10 (D.take (rowN D digitsL))):=by
   unfold numL; rw [if_neg h1]
  by_cases h2:(1<rowN D digitsL∧D.getD 0 0=48)∨rowN D digitsL=0∨4294967296≤valB 10 (D.take (rowN D digitsL))
  ·rw [if_pos h2] at hD
   rw [hD] at h0
   exact (h0 rfl).elim
  ·rw [if_neg h2] at hD
   rw [hD]
   have hr:=rowN_le D digitsL
   have hloc:=rowN_take_append (set:=digitsL) (D:=D) (rowN_digits0 hE)
   generalize rowN D digitsL=r at *
   simp only
   have hrp:0<r:=by
    rcases Nat.eq_zero_or_pos r with h | h
    ·exact (h2 (.inr (.inl h))).elim
    ·exact h
   have e3:(D.take r++E).take r=D.take r:=by
    rw [List.take_append_of_le_length (by rw [List.length_take]; omega),List.take_take,Nat.min_self]
   have e4:(D.take r++E).getD 0 0=D.getD 0 0:=by
    cases D with
    | nil=>simp at hr; omega
    | cons d D=>obtain ⟨r,rfl⟩:∃ r',r=r'+1:=⟨r-1,by omega⟩; simp
   have e5:¬ (D.take r++E).take 2=[48,120]:=by
    intro hh
    by_cases h3:2≤r
    ·rw [List.take_append_of_le_length (by rw [List.length_take]; omega),List.take_take,Nat.min_eq_left h3] at hh
     exact h1 hh
    ·have hr1:r=1:=by omega
     subst hr1
     cases D with
     | nil=>simp at hr
     | cons d D =>
      cases E with
      | nil=>simp at hh
      | cons c E =>
       simp at hh
       have:=rowN_zero.1 hE c E rfl
       rw [hh.2] at this
       revert this; decide +kernel
   unfold numL
   rw [if_neg e5,hloc,e3,e4,if_neg h2]
theorem lexD_local {D E:List UInt8} {k n m:Nat} (h:lexD D=.tok k n m) (hE:rowN E gluedL=0∨rowN (D.drop n) gluedL≠0):lexD (D.take n++E)=.tok k n m∧0<n∧n≤D.length:=by
 cases D with
 | nil=>simp [lexD] at h
 | cons d D =>
  unfold lexD at h
  rw [if_neg (by simp)] at h
  rw [List.getD_cons_zero] at h
  have key:0<n→lexD ((d::D).take n++E)=(if d=59 then .stop
   else if isLet d=true then
    if 32<rowN ((d::D).take n++E) gluedL then .wrong else .tok 1 (rowN ((d::D).take n++E) gluedL) 0
   else if isDig d=true then
    if (numL ((d::D).take n++E)).1=0∨0<rowN (((d::D).take n++E).drop (numL ((d::D).take n++E)).1) gluedL then .wrong else .tok 2 (numL ((d::D).take n++E)).1 (numL ((d::D).take n++E)).2
   else if d=39 then
    if ((d::D).take n++E).length<3∨(((d::D).take n++E).getD 1 0).toNat<32∨126<(((d::D).take n++E).getD 1 0).toNat∨((d::D).take n++E).getD 1 0=39∨((d::D).take n++E).getD 2 0≠39 then .wrong
    else .tok 2 3 (((d::D).take n++E).getD 1 0).toNat
   else if signsL.contains d=true then .tok 3 1 0
   else .wrong):=by
   intro hn
   have e0:((d::D).take n++E).getD 0 0=d:=by
    obtain ⟨n,rfl⟩:∃ n',n=n'+1:=⟨n-1,by omega⟩
    simp
   conv=>lhs; unfold lexD
   rw [if_neg (by obtain ⟨n,rfl⟩:∃ n',n=n'+1:=⟨n-1,by omega⟩; simp),e0]
  by_cases h2:d=59
  ·rw [if_pos h2] at h; cases h
  rw [if_neg h2] at h
  by_cases h3:isLet d=true
  ·rw [if_pos h3] at h
   have hpos:=rowN_step (d::D) gluedL 0 (by omega) (by simp)
   rw [List.getD_cons_zero,show gluedL=lettersL++digitsL from rfl,glued_is,h3] at hpos
   have hpos:=hpos.2 rfl
   rw [← show gluedL=lettersL++digitsL from rfl] at hpos
   by_cases h4:32<rowN (d::D) gluedL
   ·rw [if_pos h4] at h; cases h
   rw [if_neg h4] at h
   injection h with a1 a2 a3
   subst a1 a2 a3
   have hr:=rowN_le (d::D) gluedL
   have hE0:rowN E gluedL=0:=by
    rcases hE with hE | hE
    ·exact hE
    ·refine (hE ?_).elim
     refine rowN_zero.2 fun c r he=>?_
     have:=takeWhile_step (p:=fun c=>gluedL.contains c) (d::D) (rowN (d::D) gluedL) (Nat.le_refl _) (by
      have:=congrArg List.length he
      rw [List.length_drop] at this; simp at this ⊢; omega)
     have h5:¬ rowN (d::D) gluedL<((d::D).takeWhile fun c=>gluedL.contains c).length:=Nat.lt_irrefl _
     rw [this] at h5
     have h6:(d::D).getD (rowN (d::D) gluedL) 0=c:=by
      have:=congrArg (fun l=>l.getD 0 0) he
      simp only [getD_drop',Nat.add_zero,List.getD_cons_zero] at this
      exact this
     rw [h6] at h5
     simpa using h5
   refine ⟨?_,hpos,hr⟩
   rw [key hpos,if_neg h2,if_pos h3,rowN_take_append hE0,if_neg h4]
  rw [if_neg h3] at h
  by_cases h4:isDig d=true
  ·rw [if_pos h4] at h
   by_cases h5:(numL (d::D)).1=0∨0<rowN ((d::D).drop (numL (d::D)).1) gluedL
   ·rw [if_pos h5] at h; cases h
   rw [if_neg h5] at h
   injection h with a1 a2 a3
   subst a1 a2 a3
   have hE0:rowN E gluedL=0:=by
    rcases hE with hE | hE
    ·exact hE
    ·omega
   have hl:=(numL_le (d::D)).1
   have hz:(numL (d::D)).1≠0:=fun hh=>h5 (.inl hh)
   have hloc:=numL_local hz hE0
   refine ⟨?_,by omega,hl⟩
   rw [key (by omega),if_neg h2,if_neg h3,if_pos h4,hloc]
   rw [List.drop_append_of_le_length (by rw [List.length_take]; omega),List.drop_take,Nat.sub_self,List.take_zero,List.nil_append,if_neg (by omega)]
  rw [if_neg h4] at h
  by_cases h5:d=39
  ·rw [if_pos h5] at h
   by_cases h6:(d::D).length<3∨((d::D).getD 1 0).toNat<32∨126<((d::D).getD 1 0).toNat∨(d::D).getD 1 0=39∨(d::D).getD 2 0≠39
   ·rw [if_pos h6] at h; cases h
   rw [if_neg h6] at h
   injection h with a1 a2 a3
   subst a1 a2 a3
   have hlen:3≤(d::D).length:=by omega
   refine ⟨?_,by omega,hlen⟩
   match D,hlen with
   | d1::d2::D,_ =>
    rw [key (by omega),if_neg h2,if_neg h3,if_neg h4,if_pos h5]
    simp only [List.take_succ_cons,List.take_zero,List.cons_append,List.nil_append,List.getD_cons_succ,List.getD_cons_zero,List.length_cons] at h6 ⊢
    rw [if_neg (by intro hh; apply h6; rcases hh with hh | hh; omega; exact .inr hh)]
  rw [if_neg h5] at h
  by_cases h6:signsL.contains d=true
  ·rw [if_pos h6] at h
   injection h with a1 a2 a3
   subst a1 a2 a3
   refine ⟨?_,by omega,by simp⟩
   rw [key (by omega),if_neg h2,if_neg h3,if_neg h4,if_neg h5,if_pos h6]
  ·rw [if_neg h6] at h; cases h
abbrev tokCs:List Comp:=[(false,[.slice 0]),(false,[.int .i64]),(false,[.int .i64]),(false,[.slice 0]),(false,[.pointer 0]),(false,[.int .i64]),(false,[.int .i64])]
def tokI (s:ByteArray) (h:Hp) (x:HVs (flat tokCs)) (n:Nat) (h':Hp):Prop :=
 ∃ (k:Nat) (acc:List Tok),x.2.2.2.2.2.2.1=(k:Int)∧x.2.2.2.2.1=some ⟨h.size,0,none⟩∧k≤s.size∧n=s.size-k ∧
  (∃ a b c d,Box h' h.size 57 [.int .i64 a,.string b,.int .u32 c,.int .i64 d])∧SL h' (h.size+1) 57 4 x.2.2.2.1.1 x.2.2.2.1.2.1 x.2.2.2.1.2.2 (acc.map enc)∧Ext h h'∧h.size+1≤h'.size ∧
  (∃ f,s.size-k<f∧lexS s=lexF s f k acc)∧acc.length≤k
def tokPost (s:ByteArray) (h:Hp) (v:Value) (h':Hp):Prop :=
 ∃ p l c,v=.tuple #[.slice p l c,.int .i64 (lexS s).2.1,.int .i64 (lexS s).2.2]∧SL h' (h.size+1) 57 4 p l c ((lexS s).1.map enc)∧Ext h h'
theorem drop_ext {s:ByteArray} {a:Nat}:(s.extract a (Int.toNat (s.size:Int))).data.toList=s.data.toList.drop a:=by
 rw [ext_list,show Int.toNat (s.size:Int)=s.size by omega]
 exact List.take_of_length_le (by simp)
theorem getD_drop (l:List UInt8) (a:Nat):(l.drop a).getD 0 0=l.getD a 0:=by simp [List.getD]
theorem lexStep_tok {s:ByteArray} {k k':Nat} {t:Tok} (hk:k≤s.size) (h:lexStep s k=.tok t k'):k<k'∧k'≤s.size:=by
 have hsz:s.data.toList.length=s.size:=by simp
 have h1:=rowN_le (s.data.toList.drop k) blanksL
 rw [List.length_drop] at h1
 have:=lexAt_tok (a:=k+rowN (s.data.toList.drop k) blanksL) (by omega) h
 omega
theorem tok_tail {s : ByteArray} {h h2 h5 : Hp} {K : Value → Hp → Prop} {k k' : Nat} {acc : List Tok} {t : Tok} {p2 p7 : Option Addr} {l3 l4 l8 l9 : Nat} {n5 n6 nn kk : Int} (hs : s.size ≤ 2 ^ 40) (hle : k ≤ s.size)
    (hstep : lexStep s k = .tok t k') (hkk : kk = (k' : Int)) (hbox : Box h5 h.size 57 (enc t)) (hch : Ch [h.size] h2 h5) (hsl : SL h2 (h.size + 1) 57 4 p7 l8 l9 (acc.map enc)) (hext : Ext h h2) (hsz2 : h.size + 1 ≤ h2.size)
    (hlex : ∃ f, s.size - k < f ∧ lexS s = lexF s f k acc) (hacc : acc.length ≤ k) :
    (T.loads ⟨h.size, 0, none⟩ [.int .i64, .string, .int .u32, .int .i64] <| fun (n20 : Int) (s21 : ByteArray) (n22 : Int) (n23 : Int) =>
     T.sem Tryz.prog (Instr.buildSlice 42 1 #[(0, .agg #[.int .i64 n20, .string s21, .int .u32 n22, .int .i64 n23])]) false [(false, [.slice 0])] <| fun (p24 : Option Addr) (l25 : Nat) (l26 : Nat) =>
     T.sem Tryz.prog (Builtin.append_ #[42, 42] 42 #[.slice p7 l8 l9, .slice p24 l25 l26]) false [(false, [.slice 0])] <| fun (p27 : Option Addr) (l28 : Nat) (l29 : Nat) =>
     T.again 0 [.slice p2 l3 l4, .int .i64 n5, .int .i64 n6, .slice p27 l28 l29, .pointer (some ⟨h.size, 0, none⟩), .int .i64 nn, .int .i64 kk]) ([] ++ [Jl (cs := tokCs) (tokI s h) (s.size - k)]) K h5 := by
  obtain ⟨hlt, hle'⟩ := lexStep_tok hle hstep
  have hlacc : l8 = acc.length := by rw [hsl.1, List.length_map]
  refine loads_box hbox ((t.kind : Int), t.text, (t.num : Int), (t.at_ : Int), ()) rfl ?_
  have hpn : ∀ a, p7 = some a → h.size + 1 ≤ a.block := by
    intro a ha
    subst ha
    obtain ⟨g, pre, rest, rfl, hbg, _⟩ := hsl.2.2
    exact hbg
  have hsl5 : SL h5 (h.size + 1) 57 4 p7 l8 l9 (acc.map enc) := hsl.keep hch (fun a ha => by have := hpn a ha; simp; omega)
  refine push_of (z := .agg #[.int .i64 0, .string ⟨#[]⟩, .int .u32 0, .int .i64 0]) (sz := 4) (by' := 40) (e := 57) (vs := enc t) (by kernel_rfl) (by kernel_rfl) rfl (by omega) (by omega) (by kernel_rfl) rfl rfl hsl5 (by have := hch.size; omega) (by omega) (by omega) ?_
  intro p' c' h6 hsl6 hch6 _
  refine again_mk (cs := tokCs) ((p2, l3, l4), n5, n6, (p', l8 + 1, c'), some ⟨h.size, 0, none⟩, nn, kk, ()) (s.size - k') rfl (by omega) rfl ?_
  have hnot : h.size ∉ blkOf p7 := by
    cases p7 with
    | none => simp [blkOf]
    | some a => have := hpn a rfl; simp [blkOf]; omega
  refine ⟨k', acc ++ [t], hkk, rfl, hle', rfl, ⟨_, _, _, _, hbox.keep hch6 hnot⟩, ?_, ?_, ?_, ?_, ?_⟩
  · rw [List.map_append]; exact hsl6
  · have e5 : Ext h h5 := Ch.trans hext hch (fun i hi hlt => by simp at hi; omega)
    exact Ch.trans e5 hch6 (fun i hi hlt => by
      cases p7 with
      | none => simp [blkOf] at hi
      | some a => have := hpn a rfl; simp [blkOf] at hi; omega)
  · have := hch.size; have := hch6.size; omega
  · obtain ⟨f, hf, hl⟩ := hlex
    refine ⟨f - 1, by omega, ?_⟩
    rw [hl, show f = (f - 1) + 1 by omega, lexF_tok hstep]
    rfl
  · rw [List.length_append]; simp; omega
theorem tokens_hc (s:ByteArray) (h:Hp) (hs:s.size≤2^40) (hl:Laid h):HC Tryz.prog 27 #[.string s] h (tokPost s h):=by
 refine hcr_of (args:=[.string s]) mixed Tryz.func27 (by kernel_rfl) (t_lex_Tokens_eq s) ?_
 unfold t_lex_Tokens
 have hsz:s.data.toList.length=s.size:=by simp
 refine newB ?_
 intro h1 b1 e1 z1
 refine loop_of (cs:=tokCs) (tokI s h) ((none,0,0),(0:Int),(0:Int),(none,0,0),some ⟨h.size,0,none⟩,(0:Int),(0:Int),()) s.size rfl
  ⟨0,[],rfl,rfl,by omega,by omega,⟨0,⟨#[]⟩,0,0,b1⟩,SL.nil _ _ _ _,e1,by omega,⟨s.size+1,by omega,rfl⟩,by simp⟩ ?_
 rintro ⟨⟨p2,l3,l4⟩,n5,n6,⟨p7,l8,l9⟩,p10,n11,n12,⟨⟩⟩ m h2 ⟨k,acc,hk,hp,hle,rfl,⟨x1,x2,x3,x4,hbox⟩,hsl,hext,hsz2,hlex,hacc⟩
 simp only at hk hp hsl
 subst hk hp
 dsimp only [tokCs,flat,unc,unc1,nA,cA]
 have hr0:=rowN_le (s.data.toList.drop k) blanksL
 rw [List.length_drop] at hr0
 obtain ⟨f,hf,hlx⟩:=hlex
 obtain ⟨f,rfl⟩:∃ f',f=f'+1:=⟨f-1,by omega⟩
 refine need_of ⟨by omega,by omega,by omega⟩ ?_
 refine call_int (row_hc _ _ h2 (by rw [ext_size]; omega)) ?_
 rw [show Int.toNat (k:Int)=k by omega,drop_ext]
 rw [show (⟨#[9,13,32]⟩:ByteArray).data.toList=blanksL from rfl]
 obtain ⟨a,ha⟩:∃ a,a=k+rowN (s.data.toList.drop k) blanksL:=⟨_,rfl⟩
 have hw:IntKind.wrap .i64 ((k:Int)+(rowN (s.data.toList.drop k) blanksL:Int))=(a:Int):=by rw [wrap_i64 (by omega) (by omega)]; omega
 have hstep0:lexStep s k=lexAt s a:=by unfold lexStep; rw [ha]
 have hat:Int.toNat (a:Int)=a:=by omega
 have hale:a≤s.size:=by omega
 rw [hw]
 clear hw ha
 have stop:lexAt s a=.stop→tokPost s h (.tuple #[.slice p7 l8 l9,.int .i64 0,.int .i64 0]) h2:=by
  intro hst
  have he:lexS s=(acc,0,0):=by rw [hlx,lexF_stop (hstep0.trans hst)]
  exact ⟨p7,l8,l9,by rw [he]; rfl,by rw [he]; exact hsl,hext⟩
 have wrong:∀ h',lexAt s a=.wrong a→Ext h h'→tokPost s h (.tuple #[.slice none 0 0,.int .i64 a,.int .i64 20]) h':=by
  intro h' hst he'
  have he:lexS s=([],a,20):=by rw [hlx,lexF_wrong (hstep0.trans hst)]
  exact ⟨none,0,0,by rw [he]; rfl,by rw [he]; exact SL.nil _ _ _ _,he'⟩
 refine cond_mk (fun h3=>?_) (fun h3=>?_)
 ·have h3:=eq_of_beq h3
  exact stop (by unfold lexAt; rw [if_pos (by omega)])
 have h3:=ne_of_beq_false h3
 have hlt:a<s.size:=by omega
 refine need_of ⟨by omega,by omega⟩ ?_
 rw [sbyte_cN,hat]
 refine cond_mk (fun h4=>?_) (fun h4=>?_)
 ·have h4:=eq_of_beq h4
  have h4:s.data.toList.getD a 0=59:=UInt8.toNat_inj.1 (by unfold cN at h4; show _=59; omega)
  exact stop (by unfold lexAt; rw [if_neg (by omega),if_pos h4])
 have h4:=ne_of_beq_false h4
 have h4':¬ s.data.toList.getD a 0=59:=fun hh=>h4 (by rw [hh]; rfl)
 have hA:=lexAt.eq_def s a
 rw [if_neg (by omega),if_neg h4'] at hA
 refine osome_mk rfl (stores_of hbox rfl (by simp) ?_)
 intro h3' hb3 hc3 hz3
 refine need_of ⟨by omega,by omega⟩ (need_of ⟨by omega,by omega,by omega⟩ ?_)
 have hdl:(s.data.toList.drop a).length=s.size-a:=by rw [List.length_drop,hsz]
 refine call_int (row_hc _ _ h3' (by rw [ext_size]; omega)) ?_
 rw [drop_ext,lset]
 have hpos:=rowN_pos (s:=s.data.toList.drop a) (set:=lettersL) (by omega)
 rw [letters_is,getD_drop] at hpos
 refine cond_mk (fun h5=>?_) (fun h5=>?_)
 ·have h5:=of_decide_eq_true h5
  have h5:isLet (s.data.toList.getD a 0)=true:=hpos.1 (by omega)
  rw [if_pos h5] at hA
  refine osome_mk rfl (stores_of hb3 rfl (by simp [setL]) ?_)
  intro h4' hb4 hc4 hz4
  refine need_of ⟨by omega,by omega,by omega⟩ ?_
  refine call_int (row_hc _ _ h4' (by rw [ext_size]; omega)) ?_
  rw [drop_ext,gset]
  have hr1:=rowN_le (s.data.toList.drop a) (lettersL++digitsL)
  rw [show gluedL=lettersL++digitsL from rfl] at hA
  generalize rowN (s.data.toList.drop a) (lettersL++digitsL)=n at hA hr1 ⊢
  have c34:Ch [h.size] h2 h4':=Ch.trans hc3 hc4 (fun i hi _=>hi)
  have e4:Ext h h4':=Ch.trans hext c34 (fun i hi hlt=>by simp at hi; omega)
  refine cond_mk (fun h6=>?_) (fun h6=>?_)
  ·have h6:=of_decide_eq_true h6
   rw [if_pos (by omega)] at hA
   exact wrong _ hA e4
  ·have h6:=of_decide_eq_false h6
   rw [if_neg (by omega)] at hA
   have hw2:IntKind.wrap .i64 ((a:Int)+(n:Int))=((a+n:Nat):Int):=by rw [wrap_i64 (by omega) (by omega)]; omega
   rw [hw2,show Int.toNat ((a+n:Nat):Int)=a+n by omega]
   refine need_of ⟨by omega,by omega,by omega⟩ ?_
   refine osome_mk rfl ?_
   rw [add_box]
   refine stores_of hb4 rfl (by simp [setL]) ?_
   intro h5' hb5 hc5 hz5
   refine osome_mk rfl ?_
   exact tok_tail (t:=⟨1,s.extract a (a+n),0,a⟩) hs hle (hstep0.trans hA) rfl hb5 (Ch.trans c34 hc5 (fun i hi _=>hi)) hsl hext hsz2 ⟨f+1,hf,hlx⟩ hacc
 have h5:=of_decide_eq_false h5
 have h5:¬ isLet (s.data.toList.getD a 0)=true:=fun hh=>h5 (by have:=hpos.2 hh; omega)
 rw [if_neg h5] at hA
 have e3:Ext h h3':=Ch.trans hext hc3 (fun i hi hlt=>by simp at hi; omega)
 refine need_of ⟨by omega,by omega,by omega⟩ ?_
 refine call_int (row_hc _ _ h3' (by rw [ext_size]; omega)) ?_
 rw [drop_ext,show (⟨#[48,49,50,51,52,53,54,55,56,57]⟩:ByteArray).data.toList=digitsL from rfl]
 have hpos2:=rowN_pos (s:=s.data.toList.drop a) (set:=digitsL) (by omega)
 rw [digits_is,getD_drop] at hpos2
 refine cond_mk (fun h6=>?_) (fun h6=>?_)
 ·have h6:=of_decide_eq_true h6
  have h6:isDig (s.data.toList.getD a 0)=true:=hpos2.1 (by omega)
  rw [if_pos h6] at hA
  refine osome_mk rfl (stores_of hb3 rfl (by simp [setL]) ?_)
  intro h4' hb4 hc4 hz4
  have c34:Ch [h.size] h2 h4':=Ch.trans hc3 hc4 (fun i hi _=>hi)
  have e4:Ext h h4':=Ch.trans hext c34 (fun i hi hlt=>by simp at hi; omega)
  refine need_of ⟨by omega,by omega,by omega⟩ ?_
  refine call_of (number_hc _ h4' (by rw [ext_size]; omega) (hl.ext e4)) ?_
  rintro v h5' ⟨rfl,e5⟩
  rw [drop_ext]
  obtain ⟨hn1,hn2⟩:=numL_le (s.data.toList.drop a)
  generalize numL (s.data.toList.drop a)=r at hA hn1 hn2 ⊢
  refine ⟨((r.1:Int),(r.2:Int),()),rfl,?_⟩
  dsimp only [unc,unc1,flat,nA,cA]
  have hb5:=hb4.keep e5 (by simp)
  refine osome_mk rfl ?_
  rw [add_box]
  refine stores_of hb5 rfl (by simp [setL]) ?_
  intro h6' hb6 hc6 hz6
  have c36:Ch [h.size] h2 h6':=Ch.trans (Ch.trans c34 e5 (by simp)) hc6 (fun i hi _=>hi)
  have e6:Ext h h6':=Ch.trans hext c36 (fun i hi hlt=>by simp at hi; omega)
  refine cond_mk (fun h7=>?_) (fun h7=>?_)
  ·have h7:(r.1:Int)=0:=eq_of_beq h7
   rw [if_pos (.inl (by omega))] at hA
   exact wrong _ hA e6
  have h7:(r.1:Int)≠0:=ne_of_beq_false h7
  have hw2:IntKind.wrap .i64 ((a:Int)+(r.1:Int))=((a+r.1:Nat):Int):=by rw [wrap_i64 (by omega) (by omega)]; omega
  rw [hw2,show Int.toNat ((a+r.1:Nat):Int)=a+r.1 by omega]
  refine need_of ⟨by omega,by omega,by omega⟩ ?_
  refine call_int (row_hc _ _ h6' (by rw [ext_size]; omega)) ?_
  rw [drop_ext,gset]
  rw [show gluedL=lettersL++digitsL from rfl] at hA
  refine cond_mk (fun h8=>?_) (fun h8=>?_)
  ·have h8:=of_decide_eq_true h8
   rw [if_pos (.inr (by omega))] at hA
   exact wrong _ hA e6
  ·have h8:=of_decide_eq_false h8
   rw [if_neg (by omega)] at hA
   refine need_of ⟨by omega,by omega,by omega⟩ ?_
   refine osome_mk rfl ?_
   rw [add_box]
   refine stores_of hb6 rfl (by simp [setL]) ?_
   intro h7' hb7 hc7 hz7
   refine osome_mk rfl ?_
   exact tok_tail (t:=⟨2,s.extract a (a+r.1),r.2,a⟩) hs hle (hstep0.trans hA) rfl hb7 (Ch.trans c36 hc7 (fun i hi _=>hi)) hsl hext hsz2 ⟨f+1,hf,hlx⟩ hacc
 have h6:=of_decide_eq_false h6
 have h6:¬ isDig (s.data.toList.getD a 0)=true:=fun hh=>h6 (by have:=hpos2.2 hh; omega)
 rw [if_neg h6] at hA
 have hsb:∀ j:Nat,sbyte s ((a+j:Nat):Int)=cN (s.data.toList.getD (a+j) 0):=fun j=>by rw [sbyte_cN,show Int.toNat ((a+j:Nat):Int)=a+j by omega]
 have hcc:∀ (c:UInt8) (n:Nat),n<256→((cN c=(n:Int))↔c.toNat=n):=fun c n hn=>by unfold cN; omega
 refine cond_mk (fun h7=>?_) (fun h7=>?_)
 ·have h7:cN (s.data.toList.getD a 0)=39:=eq_of_beq h7
  have h7:s.data.toList.getD a 0=39:=UInt8.toNat_inj.1 (by unfold cN at h7; show _=39; omega)
  rw [if_pos h7] at hA
  have hw3:IntKind.wrap .i64 ((s.size:Int)-(a:Int))=(s.size:Int)-(a:Int):=wrap_i64 (by omega) (by omega)
  have hw4:IntKind.wrap .i64 ((a:Int)+1)=((a+1:Nat):Int):=by rw [wrap_i64 (by omega) (by omega)]; omega
  have hw5:IntKind.wrap .i64 ((a:Int)+2)=((a+2:Nat):Int):=by rw [wrap_i64 (by omega) (by omega)]; omega
  have hw6:IntKind.wrap .i64 ((a:Int)+3)=((a+3:Nat):Int):=by rw [wrap_i64 (by omega) (by omega)]; omega
  rw [hw3,hw4,hw5,hw6,hsb 1,hsb 2]
  refine cond_mk (fun h8=>?_) (fun h8=>?_)
  ·have h8:=of_decide_eq_true h8
   rw [if_pos (.inl (by omega))] at hA
   exact wrong _ hA e3
  have h8:=of_decide_eq_false h8
  have hb1:=(s.data.toList.getD (a+1) 0).toNat_lt
  refine need_of ⟨by omega,by omega⟩ ?_
  refine cond_mk (fun h9=>?_) (fun h9=>?_)
  ·have h9:=of_decide_eq_true h9
   rw [if_pos (.inr (.inl (by unfold cN at h9; omega)))] at hA
   exact wrong _ hA e3
  have h9:=of_decide_eq_false h9
  refine need_of ⟨by omega,by omega⟩ ?_
  refine cond_mk (fun h10=>?_) (fun h10=>?_)
  ·have h10:=of_decide_eq_true h10
   rw [if_pos (.inr (.inr (.inl (by unfold cN at h10; omega))))] at hA
   exact wrong _ hA e3
  have h10:=of_decide_eq_false h10
  refine need_of ⟨by omega,by omega⟩ ?_
  refine cond_mk (fun h11=>?_) (fun h11=>?_)
  ·have h11:=eq_of_beq h11
   rw [if_pos (.inr (.inr (.inr (.inl (UInt8.toNat_inj.1 (by unfold cN at h11; show _=39; omega))))))] at hA
   exact wrong _ hA e3
  have h11:=ne_of_beq_false h11
  refine need_of ⟨by omega,by omega⟩ ?_
  refine cond_mk (fun h12=>?_) (fun h12=>?_)
  ·have h12:cN (s.data.toList.getD (a+2) 0)≠39:=by simpa using h12
   rw [if_pos (.inr (.inr (.inr (.inr (fun hh=>h12 (by rw [hh]; rfl))))))] at hA
   exact wrong _ hA e3
  have h12:cN (s.data.toList.getD (a+2) 0)=39:=by simpa using h12
  have h12:s.data.toList.getD (a+2) 0=39:=UInt8.toNat_inj.1 (by unfold cN at h12; show _=39; omega)
  rw [if_neg (by
   intro hh
   rcases hh with hh | hh | hh | hh | hh
   ·omega
   ·unfold cN at h9; omega
   ·unfold cN at h10; omega
   ·exact h11 (by rw [hh]; rfl)
   ·exact hh h12)] at hA
  refine need_of ⟨by omega,by omega⟩ ?_
  refine osome_mk rfl (stores_of hb3 rfl (by simp [setL]) ?_)
  intro h4' hb4 hc4 hz4
  refine osome_mk rfl ?_
  rw [add_box]
  refine stores_of hb4 rfl (by simp [setL]) ?_
  intro h5' hb5 hc5 hz5
  refine need_of ⟨by omega,by omega,by omega⟩ ?_
  refine osome_mk rfl ?_
  rw [add_box]
  refine stores_of hb5 rfl (by simp [setL]) ?_
  intro h6' hb6 hc6 hz6
  refine osome_mk rfl ?_
  rw [show Int.toNat ((a+3:Nat):Int)=a+3 by omega] at hb6
  rw [show IntKind.wrap .u32 (cN (s.data.toList.getD (a+1) 0))=(((s.data.toList.getD (a+1) 0).toNat:Nat):Int) from wrap_u32 (by unfold cN; omega) (by unfold cN; omega)] at hb6
  have c36:Ch [h.size] h2 h6':=Ch.trans (Ch.trans (Ch.trans hc3 hc4 (fun i hi _=>hi)) hc5 (fun i hi _=>hi)) hc6 (fun i hi _=>hi)
  exact tok_tail (t:=⟨2,s.extract a (a+3),(s.data.toList.getD (a+1) 0).toNat,a⟩) hs hle (hstep0.trans hA) rfl hb6 c36 hsl hext hsz2 ⟨f+1,hf,hlx⟩ hacc
 have h7:=ne_of_beq_false h7
 have h7:¬ s.data.toList.getD a 0=39:=fun hh=>h7 (by rw [hh]; rfl)
 rw [if_neg h7] at hA
 refine call_int (indexByte_hc _ _ _) ?_
 rw [show (⟨#[58,44,40,41,43,45,42,61]⟩:ByteArray).data.toList=signsL from rfl]
 have hcon:=Lib.contains_iff_indexByte signsL (s.data.toList.getD a 0)
 rw [show (cN (s.data.toList.getD a 0)).toNat.toUInt8=s.data.toList.getD a 0 from by unfold cN; simp]
 refine cond_mk (fun h8=>?_) (fun h8=>?_)
 ·have h8:=of_decide_eq_true h8
  rw [if_pos (by rw [hcon]; exact decide_eq_true h8)] at hA
  refine osome_mk rfl (stores_of hb3 rfl (by simp [setL]) ?_)
  intro h4' hb4 hc4 hz4
  have hw4:IntKind.wrap .i64 ((a:Int)+1)=((a+1:Nat):Int):=by rw [wrap_i64 (by omega) (by omega)]; omega
  rw [hw4]
  refine need_of ⟨by omega,by omega,by omega⟩ ?_
  refine osome_mk rfl ?_
  rw [add_box]
  refine stores_of hb4 rfl (by simp [setL]) ?_
  intro h5' hb5 hc5 hz5
  refine osome_mk rfl ?_
  rw [show Int.toNat ((a+1:Nat):Int)=a+1 by omega] at hb5
  exact tok_tail (t:=⟨3,s.extract a (a+1),0,a⟩) hs hle (hstep0.trans hA) rfl hb5 (Ch.trans (Ch.trans hc3 hc4 (fun i hi _=>hi)) hc5 (fun i hi _=>hi)) hsl hext hsz2 ⟨f+1,hf,hlx⟩ hacc
 ·have h8:=of_decide_eq_false h8
  rw [if_neg (by rw [hcon]; exact fun hh=>h8 (of_decide_eq_true hh))] at hA
  exact wrong _ hA e3
def flds (P:Program) (t:TypeId):Array Field :=
 match P.underlying t with
 | some (.struct fs)=>fs
 | _=>#[]
theorem bytes_beq (t:ByteArray):(t==t)=true:=by
 cases t with | mk d=>show (d==d)=true; simp
def hv (c:UInt8):Int:=if isHex c=true then (dv c:Int) else -1
theorem hex_hc (c:UInt8) (h:Hp):HCp Tryz.prog 95 [.int .u8 (cN c)] h (.int .i64 (hv c)):=by
 refine hcp_of mixed Tryz.func95 (by kernel_rfl) (t_spandrelref2_hex_eq _) ?_
 unfold t_spandrelref2_hex
 refine call_bool (digit_hc c h) ?_
 have hlt:c.toNat<256:=c.toNat_lt
 have hdi:=isDig_iff c
 have hhi:=isHex_iff c
 refine cond_mk (fun h1=>?_) (fun h1=>?_)
 ·have h2:=hdi.1 h1
  have h3:isHex c=true:=hhi.2 (.inl h2)
  have h4:=(dv_hex c h3).1 h2.2
  refine ⟨?_,rfl⟩
  congr 1
  unfold hv
  rw [if_pos h3,h4,wrap_u8 (by omega) (by omega),wrap_i64 (by omega) (by omega)]
 ·have h2:¬ (48≤cN c∧cN c≤57):=fun hh=>by rw [hdi.2 hh] at h1; cases h1
  refine cond_mk (fun h3=>?_) (fun h3=>?_)
  ·have h3:cN c≥97:=of_decide_eq_true h3
   refine cond_mk (fun h4=>?_) (fun h4=>?_)
   ·have h4:cN c≤102:=of_decide_eq_true h4
    have h5:isHex c=true:=hhi.2 (.inr ⟨h3,h4⟩)
    have h6:=(dv_hex c h5).2.1 (by omega)
    refine ⟨?_,rfl⟩
    congr 1
    unfold hv
    rw [if_pos h5,h6,wrap_u8 (x:=cN c-97) (by omega) (by omega),wrap_i64 (x:=cN c-97) (by omega) (by omega),wrap_i64 (by omega) (by omega)]
    omega
   ·have h4:¬ cN c≤102:=of_decide_eq_false h4
    refine ⟨?_,rfl⟩
    unfold hv
    rw [if_neg (fun hh=>by have:=hhi.1 hh; omega)]
  ·have h3:¬ cN c≥97:=of_decide_eq_false h3
   refine ⟨?_,rfl⟩
   unfold hv
   rw [if_neg (fun hh=>by have:=hhi.1 hh; omega)]
def numR (D:List UInt8):Nat × Nat :=
 if D.getD 0 0=39 then
  (if D.length<3∨(D.getD 1 0).toNat<32∨126<(D.getD 1 0).toNat∨D.getD 1 0=39∨D.getD 2 0≠39 then (0,0) else ((D.getD 1 0).toNat,3))
 else if (numL D).1=0∨0<rowN (D.drop (numL D).1) gluedL then (0,0) else ((numL D).2,(numL D).1)
theorem lexD_num {D:List UInt8} (h:isDig (D.getD 0 0)=true∨D.getD 0 0=39) (h0:D≠[]):lexD D=if (numR D).2=0 then .wrong else .tok 2 (numR D).2 (numR D).1:=by
 have hc:D.getD 0 0≠59∧isLet (D.getD 0 0)=false:=by
  have:=all_bytes (fun c=>!(isDig c || decide (c=39)) || (!decide (c=59) && !isLet c)) (fun _=>true) (by decide +kernel) (D.getD 0 0)
  have h':(isDig (D.getD 0 0) || decide (D.getD 0 0=39))=true:=by
   rcases h with h | h
   ·rw [h]; rfl
   ·rw [h]; rfl
  simp only [h',Bool.not_true,Bool.false_or,Bool.and_eq_true,Bool.not_eq_true',decide_eq_false_iff_not] at this
  exact this
 unfold lexD numR
 rw [if_neg h0,if_neg hc.1,if_neg (by rw [hc.2]; simp)]
 by_cases h1:isDig (D.getD 0 0)=true
 ·have h2:D.getD 0 0≠39:=fun hh=>by rw [hh] at h1; revert h1; decide
  rw [if_pos h1,if_neg h2]
  by_cases h3:(numL D).1=0∨0<rowN (D.drop (numL D).1) gluedL
  ·rw [if_pos h3,if_pos h3]; rfl
  ·rw [if_neg h3,if_neg h3,if_neg (fun hh=>h3 (.inl hh))]
 ·have h2:D.getD 0 0=39:=h.resolve_left h1
  rw [if_neg h1,if_pos h2,if_pos h2]
  split <;> rfl
theorem foldl_pow (b:Nat):∀ (l:List UInt8) (n:Nat),n*b^l.length≤l.foldl (fun n c=>n*b+dv c) n
 | [],n=>by simp
 | c::l,n=>by
  rw [List.foldl_cons,List.length_cons,Nat.pow_succ]
  refine Nat.le_trans ?_ (foldl_pow b l _)
  rw [Nat.mul_comm (b^l.length) b,← Nat.mul_assoc]
  exact Nat.mul_le_mul_right _ (Nat.le_add_right _ _)
theorem val_big {D:List UInt8} {n:Nat} (hn:0<n) (hl:n≤D.length) (hd:isDig (D.getD 0 0)=true) (h0:D.getD 0 0≠48):10^(n-1)≤valB 10 (D.take n):=by
 cases D with
 | nil=>simp at hl; omega
 | cons d D =>
  obtain ⟨n,rfl⟩:∃ n',n=n'+1:=⟨n-1,by omega⟩
  simp only [List.getD_cons_zero,List.length_cons] at hd h0 hl
  rw [List.take_succ_cons]
  unfold valB
  rw [List.foldl_cons]
  have h1:=foldl_pow 10 (D.take n) (0*10+dv d)
  rw [List.length_take,Nat.min_eq_left (by omega)] at h1
  refine Nat.le_trans ?_ h1
  have h2:=(isDig_iff d).1 hd
  have h3:d.toNat≠48:=fun hh=>h0 (UInt8.toNat_inj.1 hh)
  have h4:1≤0*10+dv d:=by
   unfold cN at h2
   unfold dv
   split <;> omega
  have:=Nat.mul_le_mul_right (10^n) h4
  simpa using this
theorem val_small (b:Nat) (hb:0<b):∀ (l:List UInt8) (n:Nat),(∀ c∈l,dv c<b)→l.foldl (fun n c=>n*b+dv c) n<(n+1)*b^l.length
 | [],n,_=>by simp
 | c::l,n,h=>by
  rw [List.foldl_cons,List.length_cons,Nat.pow_succ]
  refine Nat.lt_of_lt_of_le (val_small b hb l _ fun d hd=>h d (by simp [hd])) ?_
  rw [Nat.mul_comm (b^l.length) b,← Nat.mul_assoc]
  refine Nat.mul_le_mul_right _ ?_
  have:=h c (by simp)
  rw [Nat.add_mul]; omega
theorem dv_dig (c:UInt8) (h:isDig c=true):(dv c:Int)=cN c-48∧dv c<10:=by
 have h2:=(isDig_iff c).1 h
 unfold dv cN at *
 split <;> omega
theorem rowN_mem {set l:List UInt8} {k:Nat} (hk:k≤rowN l set) {c:UInt8} (hc:c∈l.take k):set.contains c=true:=by
 obtain ⟨i,hi,rfl⟩:=List.getElem_of_mem hc
 rw [List.length_take] at hi
 have:=rowN_get (s:=l) (set:=set) (i:=i) (by omega)
 rw [List.getD_eq_getElem?_getD,List.getElem?_eq_getElem (by omega),Option.getD_some] at this
 rw [List.getElem_take]
 exact this
theorem val10_lt {l:List UInt8} {k:Nat} (hk:k≤rowN l digitsL):valB 10 (l.take k)<10^k:=by
 have hle:=rowN_le l digitsL
 have:=val_small 10 (by omega) (l.take k) 0 (fun c hc=>(dv_dig c (by rw [← digits_is]; exact rowN_mem hk hc)).2)
 rw [List.length_take,Nat.min_eq_left (by omega)] at this
 unfold valB
 omega
theorem val16_lt' {l:List UInt8} {k:Nat} (hk:k≤rowN l hexesL):valB 16 (l.take k)<16^k:=by
 have hle:=rowN_le l hexesL
 have:=val_small 16 (by omega) (l.take k) 0 (fun c hc=>(dv_hex c (by rw [← hexes_is]; exact rowN_mem hk hc)).2.2)
 rw [List.length_take,Nat.min_eq_left (by omega)] at this
 unfold valB
 omega
def numV (D:List UInt8) (a:Nat):Value:=.tuple #[.int .u32 (numR D).1,.int .i64 (if (numR D).2=0 then (0:Nat) else a+(numR D).2:Nat)]
def glueT (s0:ByteArray) (n2 n3:Int):T :=
 cond (decide (n2<(s0.size:Int)))
 (T.need (((0:Int)≤n2)∧(n2<(s0.size:Int))) <|
 T.call Tryz.prog 66 [.int .u8 (sbyte s0 n2)] false [(false,[.bool])] <| fun (b4:Bool) =>
 cond b4
  (T.ret (.tuple #[.int .u32 (0:Int),.int .i64 (0:Int)]))
  (T.need (((0:Int)≤n2)∧(n2<(s0.size:Int))) <|
  T.call Tryz.prog 67 [.int .u8 (sbyte s0 n2)] false [(false,[.bool])] <| fun (b5:Bool) =>
  cond b5
  (T.ret (.tuple #[.int .u32 (0:Int),.int .i64 (0:Int)]))
  (T.ret (.tuple #[.int .u32 (IntKind.wrap .u32 n3),.int .i64 n2]))))
 (T.ret (.tuple #[.int .u32 (IntKind.wrap .u32 n3),.int .i64 n2]))
theorem rowN_drop_pos {s:ByteArray} {i:Nat} (hi:i<s.size):0<rowN (s.data.toList.drop i) gluedL↔(isLet (s.data.toList.getD i 0) || isDig (s.data.toList.getD i 0))=true:=by
 have hsz:s.data.toList.length=s.size:=by simp
 rw [← glued_is]
 have:=rowN_step (s.data.toList.drop i) gluedL 0 (by omega) (by rw [List.length_drop]; omega)
 rw [getD_drop',Nat.add_zero] at this
 exact this
theorem glue_ok {s:ByteArray} {i n:Nat} {L:Lp} {K:Value→Hp→Prop} {h:Hp} (hi:i≤s.size) (hn:n<4294967296)
  (hk:K (if 0<rowN (s.data.toList.drop i) gluedL then .tuple #[.int .u32 0,.int .i64 0] else .tuple #[.int .u32 n,.int .i64 i]) h):glueT s i n L K h:=by
 unfold glueT
 have hsz:s.data.toList.length=s.size:=by simp
 have hw:IntKind.wrap .u32 (n:Int)=n:=wrap_u32 (by omega) (by omega)
 rw [hw]
 refine cond_mk (fun h1=>?_) (fun h1=>?_)
 ·have h1:=of_decide_eq_true h1
  have hp:=rowN_drop_pos (s:=s) (i:=i) (by omega)
  have hb:sbyte s (i:Int)=cN (s.data.toList.getD i 0):=by rw [sbyte_cN,show Int.toNat (i:Int)=i by omega]
  refine need_of ⟨by omega,by omega⟩ ?_
  rw [hb]
  refine call_bool (letter_hc _ h) (cond_mk (fun h2=>?_) (fun h2=>?_))
  ·rw [if_pos (hp.2 (by rw [h2]; rfl))] at hk
   exact hk
  ·refine need_of ⟨by omega,by omega⟩ (call_bool (digit_hc _ h) (cond_mk (fun h3=>?_) (fun h3=>?_)))
   ·rw [if_pos (hp.2 (by rw [h3]; simp))] at hk
    exact hk
   ·rw [if_neg (fun hh=>by have:=hp.1 hh; rw [h2,h3] at this; cases this)] at hk
    exact hk
 ·have h1:=of_decide_eq_false h1
  rw [if_neg (by rw [List.drop_eq_nil_of_le (by omega)]; simp [rowN])] at hk
  exact hk
def decTail (s0 : ByteArray) (n1 n2 n3 : Int) : T :=
 cond (decide ((IntKind.wrap .i64 (n2 - n1)) > (10 : Int)))
  (T.ret (.tuple #[.int .u32 (0 : Int), .int .i64 (0 : Int)]))
  (cond (decide (n3 > (4294967295 : Int)))
   (T.ret (.tuple #[.int .u32 (0 : Int), .int .i64 (0 : Int)]))
   (T.need (((0 : Int) ≤ n1) ∧ (n1 < (s0.size : Int))) <|
    cond ((sbyte s0 n1) == (48 : Int))
     (cond (decide ((IntKind.wrap .i64 (n2 - n1)) > (1 : Int)))
      (T.ret (.tuple #[.int .u32 (0 : Int), .int .i64 (0 : Int)]))
      (glueT s0 n2 n3))
     (glueT s0 n2 n3)))
theorem cN_eq (c d:UInt8) {n:Int} (hn:cN d=n):cN c=n↔c=d:=by
 subst hn
 unfold cN
 constructor
 ·intro h
  exact UInt8.toNat_inj.1 (by omega)
 ·intro h
  rw [h]
theorem numR_dec {D:List UInt8} (h39:D.getD 0 0≠39) (hx:¬ D.take 2=[48,120]) (h:(1<rowN D digitsL∧D.getD 0 0=48)∨rowN D digitsL=0∨4294967296≤valB 10 (D.take (rowN D digitsL))):numR D=(0,0):=by
 unfold numR
 have:numL D=(0,0):=by unfold numL; rw [if_neg hx,if_pos h]
 rw [if_neg h39,this,if_pos (.inl rfl)]
theorem numR_dec' {D:List UInt8} (h39:D.getD 0 0≠39) (hx:¬ D.take 2=[48,120]) (h:¬ ((1<rowN D digitsL∧D.getD 0 0=48)∨rowN D digitsL=0∨4294967296≤valB 10 (D.take (rowN D digitsL)))) :
  numR D=if 0<rowN (D.drop (rowN D digitsL)) gluedL then (0,0) else (valB 10 (D.take (rowN D digitsL)),rowN D digitsL):=by
 unfold numR
 have:numL D=(rowN D digitsL,valB 10 (D.take (rowN D digitsL))):=by unfold numL; rw [if_neg hx,if_neg h]
 rw [if_neg h39,this]
 simp only
 by_cases h2:0<rowN (D.drop (rowN D digitsL)) gluedL
 ·rw [if_pos (.inr h2),if_pos h2]
 ·rw [if_neg h2,if_neg (by rintro (hh | hh); exact h (.inr (.inl hh)); exact h2 hh)]
theorem dec_ok {s:ByteArray} {a j:Nat} {L:Lp} {K:Value→Hp→Prop} {h:Hp} (hs:s.size≤2^40) (ha:a<s.size) (hd:isDig (s.data.toList.getD a 0)=true) (hx:¬ (s.data.toList.drop a).take 2=[48,120])
  (hj:j=min (rowN (s.data.toList.drop a) digitsL) 12)
  (hk:K (numV (s.data.toList.drop a) a) h):decTail s a ((a+j:Nat):Int) (valB 10 ((s.data.toList.drop a).take j):Nat) L K h:=by
 have hsz:s.data.toList.length=s.size:=by simp
 have hr:=rowN_le (s.data.toList.drop a) digitsL
 rw [List.length_drop] at hr
 have hD0:(s.data.toList.drop a).getD 0 0=s.data.toList.getD a 0:=by rw [getD_drop',Nat.add_zero]
 have h39:(s.data.toList.drop a).getD 0 0≠39:=fun hh=>by rw [hD0] at hh; rw [hh] at hd; revert hd; decide
 have hpos:0<rowN (s.data.toList.drop a) digitsL:=by
  have:=(rowN_step (s.data.toList.drop a) digitsL 0 (by omega) (by rw [List.length_drop]; omega)).2 (by rw [hD0,digits_is]; exact hd)
  exact this
 have hbig:=fun h0=>val_big (D:=s.data.toList.drop a) (n:=rowN (s.data.toList.drop a) digitsL) hpos (by rw [List.length_drop]; omega) (by rw [hD0]; exact hd) h0
 have hN:=numR_dec h39 hx
 have hN':=numR_dec' h39 hx
 unfold numV at hk
 unfold decTail
 have hw:IntKind.wrap .i64 (((a+j:Nat):Int)-(a:Int))=(j:Int):=by rw [wrap_i64 (by omega) (by omega)]; omega
 rw [hw]
 have hsb:sbyte s (a:Int)=cN ((s.data.toList.drop a).getD 0 0):=by rw [hD0,sbyte_cN,show Int.toNat (a:Int)=a by omega]
 have hlt:=val10_lt (l:=s.data.toList.drop a) (k:=j) (by omega)
 refine cond_mk (fun h1=>?_) (fun h1=>?_)
 ·have h1:=of_decide_eq_true h1
  rw [hN (by
   by_cases h0:(s.data.toList.drop a).getD 0 0=48
   ·exact .inl ⟨by omega,h0⟩
   ·refine .inr (.inr ?_)
    refine Nat.le_trans ?_ (hbig h0)
    refine Nat.le_trans (show 4294967296≤10^10 by decide) (Nat.pow_le_pow_right (by omega) (by omega)))] at hk
  exact hk
 have h1:=of_decide_eq_false h1
 have hjr:rowN (s.data.toList.drop a) digitsL=j:=by omega
 rw [hjr] at hN hN'
 refine cond_mk (fun h2=>?_) (fun h2=>?_)
 ·have h2:=of_decide_eq_true h2
  rw [hN (.inr (.inr (by omega)))] at hk
  exact hk
 have h2:=of_decide_eq_false h2
 have hglue:(¬ (1<j∧(s.data.toList.drop a).getD 0 0=48))→glueT s ((a+j:Nat):Int) (valB 10 ((s.data.toList.drop a).take j):Nat) L K h:=by
  intro hh
  refine glue_ok (by omega) (by omega) ?_
  rw [hN' (by rintro (h3 | h3 | h3); exact hh h3; omega; omega),List.drop_drop] at hk
  by_cases h3:0<rowN (s.data.toList.drop (a+j)) gluedL
  ·rw [if_pos h3] at hk ⊢
   exact hk
  ·rw [if_neg h3] at hk ⊢
   simp only at hk
   rw [if_neg (by omega)] at hk
   exact hk
 refine need_of ⟨by omega,by omega⟩ ?_
 rw [hsb]
 refine cond_mk (fun h3=>?_) (fun h3=>?_)
 ·have h3:=(cN_eq _ 48 rfl).1 (eq_of_beq h3)
  refine cond_mk (fun h4=>?_) (fun h4=>?_)
  ·have h4:=of_decide_eq_true h4
   rw [hN (.inl ⟨by omega,h3⟩)] at hk
   exact hk
  ·have h4:=of_decide_eq_false h4
   exact hglue (by omega)
 ·have h3:¬ (s.data.toList.drop a).getD 0 0=48:=fun hh=>ne_of_beq_false h3 ((cN_eq _ 48 rfl).2 hh)
  exact hglue (fun hh=>h3 hh.2)
def decLoop (s0 : ByteArray) (n1 : Int) : T :=
 T.loop [(false, [.int .i64]), (false, [.int .u64])] [.int .i64 n1, .int .u64 (0 : Int)] <| fun (n2 : Int) (n3 : Int) =>
 cond (decide (n2 < (s0.size : Int)))
  (T.need (((0 : Int) ≤ n2) ∧ (n2 < (s0.size : Int))) <|
  T.call Tryz.prog 67 [.int .u8 (sbyte s0 n2)] false [(false, [.bool])] <| fun (b4 : Bool) =>
  cond b4
   (cond (decide ((IntKind.wrap .i64 (n2 - n1)) < (12 : Int)))
    (T.need (((0 : Int) ≤ n2) ∧ (n2 < (s0.size : Int))) <|
    T.again 0 [.int .i64 (IntKind.wrap .i64 (n2 + (1 : Int))), .int .u64 (IntKind.wrap .u64 ((IntKind.wrap .u64 (n3 * (10 : Int))) + (IntKind.wrap .u64 (IntKind.wrap .u8 ((sbyte s0 n2) - (48 : Int))))))])
    (decTail s0 n1 n2 n3))
   (decTail s0 n1 n2 n3))
  (decTail s0 n1 n2 n3)
theorem decLoop_ok {s:ByteArray} {a:Nat} {K:Value→Hp→Prop} {h:Hp} (hs:s.size≤2^40) (ha:a<s.size) (hd:isDig (s.data.toList.getD a 0)=true) (hx:¬ (s.data.toList.drop a).take 2=[48,120])
  (hk:K (numV (s.data.toList.drop a) a) h):decLoop s a [] K h:=by
 have hsz:s.data.toList.length=s.size:=by simp
 have hr:=rowN_le (s.data.toList.drop a) digitsL
 rw [List.length_drop] at hr
 unfold decLoop
 refine loop_of (cs:=[(false,[.int .i64]),(false,[.int .u64])]) (fun x n h'=>h'=h∧∃ j:Nat,x.1=((a+j:Nat):Int)∧x.2.1=((valB 10 ((s.data.toList.drop a).take j):Nat):Int)∧j≤12∧j≤rowN (s.data.toList.drop a) digitsL∧n=12-j)
  ((a:Int),(0:Int),()) 12 rfl ⟨rfl,0,rfl,rfl,by omega,by omega,by omega⟩ ?_
 rintro ⟨n2,n3,⟨⟩⟩ m h' ⟨rfl,j,hn2,hn3,hj12,hjr,rfl⟩
 simp only at hn2 hn3
 subst hn2 hn3
 dsimp only [flat,unc,unc1,nA,cA]
 have hst:=rowN_step (s.data.toList.drop a) digitsL j hjr
 rw [getD_drop',digits_is,List.length_drop] at hst
 have hlt:=val10_lt hjr
 have hp12:10^j≤10^12:=Nat.pow_le_pow_right (by omega) hj12
 have h12:(10:Nat)^12=1000000000000:=rfl
 refine cond_mk (fun h1=>?_) (fun h1=>?_)
 ·have h1:=of_decide_eq_true h1
  have hb:sbyte s ((a+j:Nat):Int)=cN (s.data.toList.getD (a+j) 0):=by rw [sbyte_cN,show Int.toNat ((a+j:Nat):Int)=a+j by omega]
  refine need_of ⟨by omega,by omega⟩ ?_
  rw [hb]
  have hst:=hst (by omega)
  refine call_bool (digit_hc _ _) (cond_mk (fun h2=>?_) (fun h2=>?_))
  ·have hlt2:=hst.2 h2
   have hw:IntKind.wrap .i64 (((a+j:Nat):Int)-(a:Int))=(j:Int):=by rw [wrap_i64 (by omega) (by omega)]; omega
   refine cond_mk (fun h3=>?_) (fun h3=>?_)
   ·rw [hw] at h3
    have h3:=of_decide_eq_true h3
    refine need_of ⟨by omega,by omega⟩ ?_
    have hsn:=valB_snoc 10 (s.data.toList.drop a) j (by rw [List.length_drop]; omega)
    rw [getD_drop'] at hsn
    obtain ⟨hd1,hd2⟩:=dv_dig _ h2
    generalize hv:valB 10 ((s.data.toList.drop a).take j)=v at hlt hsn ⊢
    generalize dv (s.data.toList.getD (a+j) 0)=d at hsn hd1 hd2
    have hw1:IntKind.wrap .u8 (cN (s.data.toList.getD (a+j) 0)-48)=(d:Int):=by rw [wrap_u8 (by omega) (by omega)]; omega
    have hw2:IntKind.wrap .u64 (d:Int)=d:=wrap_u64 (by omega) (by omega)
    have hw3:IntKind.wrap .u64 ((v:Int)*10)=(v:Int)*10:=wrap_u64 (by omega) (by omega)
    have hw4:IntKind.wrap .u64 ((v:Int)*10+(d:Int))=((valB 10 ((s.data.toList.drop a).take (j+1)):Nat):Int):=by rw [wrap_u64 (by omega) (by omega),hsn]; omega
    have hw5:IntKind.wrap .i64 (((a+j:Nat):Int)+1)=((a+(j+1):Nat):Int):=by rw [wrap_i64 (by omega) (by omega)]; omega
    rw [hw1,hw2,hw3,hw4,hw5]
    exact again_mk (cs:=[(false,[.int .i64]),(false,[.int .u64])]) (((a+(j+1):Nat):Int),((valB 10 ((s.data.toList.drop a).take (j+1)):Nat):Int),()) (12-(j+1)) rfl (by omega) rfl ⟨rfl,j+1,rfl,rfl,by omega,by omega,rfl⟩
   ·rw [hw] at h3
    have h3:=of_decide_eq_false h3
    exact dec_ok hs ha hd hx (by omega) hk
  ·refine dec_ok hs ha hd hx ?_ hk
   have:¬ j<rowN (s.data.toList.drop a) digitsL:=fun hh=>by rw [hst.1 hh] at h2; cases h2
   omega
 ·have h1:=of_decide_eq_false h1
  exact dec_ok hs ha hd hx (by omega) hk
def hexTail (s0 : ByteArray) (n1 n2 n3 : Int) : T :=
 cond (decide ((IntKind.wrap .i64 (n2 - n1)) < (3 : Int)))
  (T.ret (.tuple #[.int .u32 (0 : Int), .int .i64 (0 : Int)]))
  (cond (decide ((IntKind.wrap .i64 (n2 - n1)) > (10 : Int)))
   (T.ret (.tuple #[.int .u32 (0 : Int), .int .i64 (0 : Int)]))
   (glueT s0 n2 n3))
theorem hex_ok {s:ByteArray} {a j:Nat} {L:Lp} {K:Value→Hp→Prop} {h:Hp} (hs:s.size≤2^40) (ha:a+1<s.size) (hx:(s.data.toList.drop a).take 2=[48,120])
  (hj:j=min (rowN (s.data.toList.drop (a+2)) hexesL) 10)
  (hk:K (numV (s.data.toList.drop a) a) h):hexTail s a ((a+2+j:Nat):Int) (valB 16 ((s.data.toList.drop (a+2)).take j):Nat) L K h:=by
 have hsz:s.data.toList.length=s.size:=by simp
 have hr:=rowN_le (s.data.toList.drop (a+2)) hexesL
 rw [List.length_drop] at hr
 have h39:(s.data.toList.drop a).getD 0 0≠39:=by
  have:=congrArg (fun l=>l.getD 0 0) hx
  simp only [List.getD_cons_zero] at this
  rw [getD_take (by omega)] at this
  rw [this]; decide
 have hN:numR (s.data.toList.drop a)=if 8<rowN (s.data.toList.drop (a+2)) hexesL∨rowN (s.data.toList.drop (a+2)) hexesL=0 then (0,0)
   else if 0<rowN (s.data.toList.drop (a+2+rowN (s.data.toList.drop (a+2)) hexesL)) gluedL then (0,0) else (valB 16 ((s.data.toList.drop (a+2)).take (rowN (s.data.toList.drop (a+2)) hexesL)),2+rowN (s.data.toList.drop (a+2)) hexesL):=by
  unfold numR numL
  rw [if_neg h39,if_pos hx,List.drop_drop]
  by_cases h1:8<rowN (s.data.toList.drop (a+2)) hexesL∨rowN (s.data.toList.drop (a+2)) hexesL=0
  ·rw [if_pos h1,if_pos h1,if_pos (.inl rfl)]
  ·rw [if_neg h1,if_neg h1]
   simp only [List.drop_drop]
   rw [← Nat.add_assoc]
   by_cases h2:0<rowN (s.data.toList.drop (a+2+rowN (s.data.toList.drop (a+2)) hexesL)) gluedL
   ·rw [if_pos h2,if_pos (.inr h2)]
   ·rw [if_neg h2,if_neg (by rintro (hh | hh); omega; exact h2 hh)]
 unfold numV at hk
 rw [hN] at hk
 unfold hexTail
 have hw:IntKind.wrap .i64 (((a+2+j:Nat):Int)-(a:Int))=((2+j:Nat):Int):=by rw [wrap_i64 (by omega) (by omega)]; omega
 rw [hw]
 refine cond_mk (fun h1=>?_) (fun h1=>?_)
 ·have h1:=of_decide_eq_true h1
  rw [if_pos (.inr (by omega))] at hk
  exact hk
 have h1:=of_decide_eq_false h1
 refine cond_mk (fun h2=>?_) (fun h2=>?_)
 ·have h2:=of_decide_eq_true h2
  rw [if_pos (.inl (by omega))] at hk
  exact hk
 have h2:=of_decide_eq_false h2
 have hjr:rowN (s.data.toList.drop (a+2)) hexesL=j:=by omega
 rw [hjr,if_neg (by omega)] at hk
 have hlt:=val16_lt' (l:=s.data.toList.drop (a+2)) (k:=j) (by omega)
 have hp:16^j≤16^8:=Nat.pow_le_pow_right (by omega) (by omega)
 have h8:(16:Nat)^8=4294967296:=rfl
 refine glue_ok (by omega) (by omega) ?_
 by_cases h3:0<rowN (s.data.toList.drop (a+2+j)) gluedL
 ·rw [if_pos h3] at hk ⊢
  exact hk
 ·rw [if_neg h3] at hk ⊢
  simp only at hk
  rw [if_neg (by omega),← Nat.add_assoc] at hk
  exact hk
def hexLoop (s0 : ByteArray) (n1 : Int) : T :=
 T.loop [(false, [.int .i64]), (false, [.int .u64])] [.int .i64 (IntKind.wrap .i64 (n1 + (2 : Int))), .int .u64 (0 : Int)] <| fun (n2 : Int) (n3 : Int) =>
 cond (decide (n2 < (s0.size : Int)))
  (T.need (((0 : Int) ≤ n2) ∧ (n2 < (s0.size : Int))) <|
  T.call Tryz.prog 95 [.int .u8 (sbyte s0 n2)] false [(false, [.int .i64])] <| fun (n4 : Int) =>
  cond (decide (n4 ≥ (0 : Int)))
   (cond (decide ((IntKind.wrap .i64 (n2 - n1)) < (12 : Int)))
    (T.need (((0 : Int) ≤ n2) ∧ (n2 < (s0.size : Int))) <|
    T.call Tryz.prog 95 [.int .u8 (sbyte s0 n2)] false [(false, [.int .i64])] <| fun (n5 : Int) =>
    T.again 0 [.int .i64 (IntKind.wrap .i64 (n2 + (1 : Int))), .int .u64 (IntKind.wrap .u64 ((IntKind.wrap .u64 (n3 * (16 : Int))) + (IntKind.wrap .u64 n5)))])
    (hexTail s0 n1 n2 n3))
   (hexTail s0 n1 n2 n3))
  (hexTail s0 n1 n2 n3)
theorem hexLoop_ok {s:ByteArray} {a:Nat} {K:Value→Hp→Prop} {h:Hp} (hs:s.size≤2^40) (ha:a+1<s.size) (hx:(s.data.toList.drop a).take 2=[48,120])
  (hk:K (numV (s.data.toList.drop a) a) h):hexLoop s a [] K h:=by
 have hsz:s.data.toList.length=s.size:=by simp
 have hr:=rowN_le (s.data.toList.drop (a+2)) hexesL
 rw [List.length_drop] at hr
 unfold hexLoop
 have hw0:IntKind.wrap .i64 ((a:Int)+2)=((a+2+0:Nat):Int):=by rw [wrap_i64 (by omega) (by omega)]; omega
 rw [hw0]
 refine loop_of (cs:=[(false,[.int .i64]),(false,[.int .u64])]) (fun x n h'=>h'=h∧∃ j:Nat,x.1=((a+2+j:Nat):Int)∧x.2.1=((valB 16 ((s.data.toList.drop (a+2)).take j):Nat):Int)∧j≤10∧j≤rowN (s.data.toList.drop (a+2)) hexesL∧n=10-j)
  (((a+2+0:Nat):Int),(0:Int),()) 10 rfl ⟨rfl,0,rfl,rfl,by omega,by omega,by omega⟩ ?_
 rintro ⟨n2,n3,⟨⟩⟩ m h' ⟨rfl,j,hn2,hn3,hj12,hjr,rfl⟩
 simp only at hn2 hn3
 subst hn2 hn3
 dsimp only [flat,unc,unc1,nA,cA]
 have hst:=rowN_step (s.data.toList.drop (a+2)) hexesL j hjr
 rw [getD_drop',hexes_is,List.length_drop] at hst
 have hlt:=val16_lt' hjr
 have hp12:16^j≤16^10:=Nat.pow_le_pow_right (by omega) hj12
 have h12:(16:Nat)^10=1099511627776:=rfl
 refine cond_mk (fun h1=>?_) (fun h1=>?_)
 ·have h1:=of_decide_eq_true h1
  have hb:sbyte s ((a+2+j:Nat):Int)=cN (s.data.toList.getD (a+2+j) 0):=by rw [sbyte_cN,show Int.toNat ((a+2+j:Nat):Int)=a+2+j by omega]
  refine need_of ⟨by omega,by omega⟩ ?_
  rw [hb]
  have hst:=hst (by omega)
  refine call_int (hex_hc _ _) (cond_mk (fun h2=>?_) (fun h2=>?_))
  ·have h2:=of_decide_eq_true h2
   have h2':isHex (s.data.toList.getD (a+2+j) 0)=true:=by
    unfold hv at h2
    by_cases hh:isHex (s.data.toList.getD (a+2+j) 0)=true
    ·exact hh
    ·rw [if_neg hh] at h2; omega
   have hlt2:=hst.2 h2'
   have hw:IntKind.wrap .i64 (((a+2+j:Nat):Int)-(a:Int))=((2+j:Nat):Int):=by rw [wrap_i64 (by omega) (by omega)]; omega
   refine cond_mk (fun h3=>?_) (fun h3=>?_)
   ·rw [hw] at h3
    have h3:=of_decide_eq_true h3
    refine need_of ⟨by omega,by omega⟩ (call_int (hex_hc _ _) ?_)
    have hsn:=valB_snoc 16 (s.data.toList.drop (a+2)) j (by rw [List.length_drop]; omega)
    rw [getD_drop'] at hsn
    have hd2:=(dv_hex _ h2').2.2
    have hhv:hv (s.data.toList.getD (a+2+j) 0)=(dv (s.data.toList.getD (a+2+j) 0):Int):=by unfold hv; rw [if_pos h2']
    rw [hhv]
    generalize hvv:valB 16 ((s.data.toList.drop (a+2)).take j)=v at hlt hsn ⊢
    generalize dv (s.data.toList.getD (a+2+j) 0)=d at hsn hd2
    have hw2:IntKind.wrap .u64 (d:Int)=d:=wrap_u64 (by omega) (by omega)
    have hw3:IntKind.wrap .u64 ((v:Int)*16)=(v:Int)*16:=wrap_u64 (by omega) (by omega)
    have hw4:IntKind.wrap .u64 ((v:Int)*16+(d:Int))=((valB 16 ((s.data.toList.drop (a+2)).take (j+1)):Nat):Int):=by rw [wrap_u64 (by omega) (by omega),hsn]; omega
    have hw5:IntKind.wrap .i64 (((a+2+j:Nat):Int)+1)=((a+2+(j+1):Nat):Int):=by rw [wrap_i64 (by omega) (by omega)]; omega
    rw [hw2,hw3,hw4,hw5]
    exact again_mk (cs:=[(false,[.int .i64]),(false,[.int .u64])]) (((a+2+(j+1):Nat):Int),((valB 16 ((s.data.toList.drop (a+2)).take (j+1)):Nat):Int),()) (10-(j+1)) rfl (by omega) rfl ⟨rfl,j+1,rfl,rfl,by omega,by omega,rfl⟩
   ·rw [hw] at h3
    have h3:=of_decide_eq_false h3
    exact hex_ok hs ha hx (by omega) hk
  ·refine hex_ok hs ha hx ?_ hk
   have h2:=of_decide_eq_false h2
   have:¬ j<rowN (s.data.toList.drop (a+2)) hexesL:=fun hh=>by
    have h4:=hst.1 hh
    unfold hv at h2
    rw [if_pos h4] at h2
    omega
   omega
 ·have h1:=of_decide_eq_false h1
  exact hex_ok hs ha hx (by omega) hk
theorem number2_hc (s:ByteArray) (a:Nat) (h:Hp) (hs:s.size≤2^40) (ha:a<s.size) (hd:isDig (s.data.toList.getD a 0)=true∨s.data.toList.getD a 0=39) :
  HCp Tryz.prog 72 [.string s,.int .i64 a] h (numV (s.data.toList.drop a) a):=by
 refine hcp_of mixed Tryz.func72 (by kernel_rfl) (t_spandrelref2_number_eq s a) ?_
 unfold t_spandrelref2_number
 have hsz:s.data.toList.length=s.size:=by simp
 refine need_of ⟨by omega,by omega⟩ ?_
 have hsb:∀ j:Nat,sbyte s ((a+j:Nat):Int)=cN (s.data.toList.getD (a+j) 0):=fun j=>by rw [sbyte_cN,show Int.toNat ((a+j:Nat):Int)=a+j by omega]
 have hsb0:sbyte s (a:Int)=cN (s.data.toList.getD a 0):=hsb 0
 rw [hsb0]
 have hw1:a+3≤2^50→∀ j:Nat,j≤3→IntKind.wrap .i64 ((a:Int)+(j:Int))=((a+j:Nat):Int):=fun _ j hj=>by rw [wrap_i64 (by omega) (by omega)]; omega
 have hw1:=hw1 (by omega)
 have e1:IntKind.wrap .i64 ((a:Int)+1)=((a+1:Nat):Int):=hw1 1 (by omega)
 have e2:IntKind.wrap .i64 ((a:Int)+2)=((a+2:Nat):Int):=hw1 2 (by omega)
 have e3:IntKind.wrap .i64 ((a:Int)+3)=((a+3:Nat):Int):=hw1 3 (by omega)
 have hD0:(s.data.toList.drop a).getD 0 0=s.data.toList.getD a 0:=by rw [getD_drop',Nat.add_zero]
 refine cond_mk (fun h1=>?_) (fun h1=>?_)
 ·have h1:=(cN_eq _ 39 rfl).1 (eq_of_beq h1)
  have hN:numR (s.data.toList.drop a)=if s.size-a<3∨(s.data.toList.getD (a+1) 0).toNat<32∨126<(s.data.toList.getD (a+1) 0).toNat∨s.data.toList.getD (a+1) 0=39∨s.data.toList.getD (a+2) 0≠39 then (0,0) else ((s.data.toList.getD (a+1) 0).toNat,3):=by
   unfold numR
   rw [hD0,if_pos h1]
   simp only [getD_drop',List.length_drop,hsz]
  unfold numV
  rw [hN,e1,e2,e3,hsb 1,hsb 2]
  refine cond_mk (fun h2=>?_) (fun h2=>?_)
  ·have h2:=of_decide_eq_true h2
   rw [if_pos (.inl (by omega))]
   exact ⟨rfl,rfl⟩
  have h2:=of_decide_eq_false h2
  refine need_of ⟨by omega,by omega⟩ (cond_mk (fun h3=>?_) (fun h3=>?_))
  ·have h3:=of_decide_eq_true h3
   rw [if_pos (.inr (.inl (by unfold cN at h3; omega)))]
   exact ⟨rfl,rfl⟩
  have h3:=of_decide_eq_false h3
  refine need_of ⟨by omega,by omega⟩ (cond_mk (fun h4=>?_) (fun h4=>?_))
  ·have h4:=of_decide_eq_true h4
   rw [if_pos (.inr (.inr (.inl (by unfold cN at h4; omega))))]
   exact ⟨rfl,rfl⟩
  have h4:=of_decide_eq_false h4
  refine need_of ⟨by omega,by omega⟩ (cond_mk (fun h5=>?_) (fun h5=>?_))
  ·have h5:=(cN_eq _ 39 rfl).1 (eq_of_beq h5)
   rw [if_pos (.inr (.inr (.inr (.inl h5))))]
   exact ⟨rfl,rfl⟩
  have h5:=ne_of_beq_false h5
  refine need_of ⟨by omega,by omega⟩ (cond_mk (fun h6=>?_) (fun h6=>?_))
  ·have h6:cN (s.data.toList.getD (a+2) 0)≠39:=by simpa using h6
   rw [if_pos (.inr (.inr (.inr (.inr (fun hh=>h6 ((cN_eq _ 39 rfl).2 hh))))))]
   exact ⟨rfl,rfl⟩
  have h6:cN (s.data.toList.getD (a+2) 0)=39:=by simpa using h6
  have hcn:cN (s.data.toList.getD (a+1) 0)=((s.data.toList.getD (a+1) 0).toNat:Int):=rfl
  rw [if_neg (by
   rintro (hh | hh | hh | hh | hh)
   ·omega
   ·omega
   ·omega
   ·exact h5 ((cN_eq _ 39 rfl).2 hh)
   ·exact hh ((cN_eq _ 39 rfl).1 h6))]
  refine need_of ⟨by omega,by omega⟩ ⟨?_,rfl⟩
  have hb:=(s.data.toList.getD (a+1) 0).toNat_lt
  rw [wrap_u32 (by omega) (by omega),hcn]
  rfl
 have h1:s.data.toList.getD a 0≠39:=fun hh=>ne_of_beq_false h1 ((cN_eq _ 39 rfl).2 hh)
 have hd:isDig (s.data.toList.getD a 0)=true:=hd.resolve_right h1
 refine need_of ⟨by omega,by omega⟩ ?_
 have dec:¬ (s.data.toList.drop a).take 2=[48,120]→decLoop s a [] (fun v' h'=>v'=numV (s.data.toList.drop a) a∧h'=h) h:=fun hx=>decLoop_ok hs ha hd hx ⟨rfl,rfl⟩
 have htake:∀ b:UInt8,(s.data.toList.drop a).take 2=[48,b]↔s.data.toList.getD a 0=48∧a+1<s.size∧s.data.toList.getD (a+1) 0=b:=by
  intro b
  have ea:s.data.toList.drop a=s.data.toList.getD a 0::s.data.toList.drop (a+1):=by
   rw [List.drop_eq_getElem_cons (by omega)]
   congr 1
   rw [List.getD_eq_getElem?_getD,List.getElem?_eq_getElem (by omega)]; rfl
  rw [ea]
  by_cases h2:a+1<s.size
  ·have eb:s.data.toList.drop (a+1)=s.data.toList.getD (a+1) 0::s.data.toList.drop (a+2):=by
    rw [List.drop_eq_getElem_cons (by omega)]
    congr 1
    rw [List.getD_eq_getElem?_getD,List.getElem?_eq_getElem (by omega)]; rfl
   rw [eb]
   simp [h2]
  ·rw [List.drop_eq_nil_of_le (i:=a+1) (by omega)]
   simp [h2]
 refine cond_mk (fun h2=>?_) (fun h2=>?_)
 ·have h2:=(cN_eq _ 48 rfl).1 (eq_of_beq h2)
  rw [e1]
  refine cond_mk (fun h3=>?_) (fun h3=>?_)
  ·have h3:=of_decide_eq_true h3
   refine need_of ⟨by omega,by omega⟩ ?_
   rw [hsb 1]
   refine cond_mk (fun h4=>?_) (fun h4=>?_)
   ·have h4:=(cN_eq _ 120 rfl).1 (eq_of_beq h4)
    exact hexLoop_ok hs (by omega) ((htake 120).2 ⟨h2,by omega,h4⟩) ⟨rfl,rfl⟩
   ·exact dec (fun hh=>ne_of_beq_false h4 ((cN_eq _ 120 rfl).2 ((htake 120).1 hh).2.2))
  ·have h3:=of_decide_eq_false h3
   exact dec (fun hh=>h3 (by have:=((htake 120).1 hh).2.1; omega))
 ·exact dec (fun hh=>ne_of_beq_false h2 ((cN_eq _ 48 rfl).2 ((htake 120).1 hh).1))
inductive Chain (s:ByteArray):Nat→List Tok→Prop where
 | stop (k:Nat):k≤s.size→lexD (s.data.toList.drop (k+rowN (s.data.toList.drop k) blanksL))=.stop→Chain s k []
 | tok (k kind n m:Nat) (ts:List Tok):k≤s.size→lexD (s.data.toList.drop (k+rowN (s.data.toList.drop k) blanksL))=.tok kind n m→Chain s (k+rowN (s.data.toList.drop k) blanksL+n) ts →
   Chain s k (⟨kind,s.extract (k+rowN (s.data.toList.drop k) blanksL) (k+rowN (s.data.toList.drop k) blanksL+n),m,k+rowN (s.data.toList.drop k) blanksL⟩::ts)
theorem blank_le {s:ByteArray} {k:Nat} (hk:k≤s.size):k+rowN (s.data.toList.drop k) blanksL≤s.size:=by
 have h1:=rowN_le (s.data.toList.drop k) blanksL
 rw [List.length_drop] at h1
 have hsz:s.data.toList.length=s.size:=by simp
 omega
theorem lexStep_lexD {s:ByteArray} {k:Nat} (hk:k≤s.size):lexStep s k=mkStep s (k+rowN (s.data.toList.drop k) blanksL) (lexD (s.data.toList.drop (k+rowN (s.data.toList.drop k) blanksL))):=by
 unfold lexStep
 exact lexAt_lexD s _ (blank_le hk)
theorem lexD_pos {D:List UInt8} {k n m:Nat} (h:lexD D=.tok k n m):0<n∧n≤D.length:=(lexD_local (E:=[]) h (.inl rfl)).2
theorem lexD_nil:lexD []=.stop:=rfl
theorem lexF_chain {s:ByteArray}:∀ (f k:Nat) (acc:List Tok),k≤s.size→s.size-k<f →
  (∃ ts,Chain s k ts∧lexF s f k acc=(acc++ts,0,0))∨(∃ a,a<s.size∧lexF s f k acc=([],a,20))
 | 0,k,acc,hk,hf=>by omega
 | f+1,k,acc,hk,hf=>by
  have hst:=lexStep_lexD hk
  have ha:=blank_le hk
  have hsz:s.data.toList.length=s.size:=by simp
  cases hD:lexD (s.data.toList.drop (k+rowN (s.data.toList.drop k) blanksL)) with
  | stop =>
   rw [hD] at hst
   exact .inl ⟨[],.stop k hk hD,by rw [lexF_stop hst,List.append_nil]⟩
  | wrong =>
   rw [hD] at hst
   refine .inr ⟨_,?_,lexF_wrong hst⟩
   rcases Nat.lt_or_ge (k+rowN (s.data.toList.drop k) blanksL) s.size with h | h
   ·exact h
   ·rw [List.drop_eq_nil_of_le (by omega),lexD_nil] at hD; cases hD
  | tok kind n m =>
   rw [hD] at hst
   obtain ⟨h1,h2⟩:=lexD_pos hD
   rw [List.length_drop] at h2
   rcases lexF_chain (s:=s) f (k+rowN (s.data.toList.drop k) blanksL+n) (acc++[⟨kind,s.extract (k+rowN (s.data.toList.drop k) blanksL) (k+rowN (s.data.toList.drop k) blanksL+n),m,k+rowN (s.data.toList.drop k) blanksL⟩]) (by omega) (by omega) with ⟨ts,hc,he⟩ | ⟨a,ha',he⟩
   ·refine .inl ⟨_,.tok k kind n m ts hk hD hc,?_⟩
    rw [lexF_tok hst,he,List.append_assoc,List.singleton_append]
   ·exact .inr ⟨a,ha',by rw [lexF_tok hst,he]⟩
theorem lexS_cases (s:ByteArray):(Chain s 0 (lexS s).1∧(lexS s).2=(0,0))∨(∃ a,a<s.size∧lexS s=([],a,20)):=by
 rcases lexF_chain (s:=s) (s.size+1) 0 [] (by omega) (by omega) with ⟨ts,hc,he⟩ | ⟨a,ha,he⟩
 ·refine .inl ?_
  unfold lexS
  rw [he]
  exact ⟨hc,rfl⟩
 ·exact .inr ⟨a,ha,he⟩
theorem ba_ext {s t:ByteArray} (h:s.data.toList=t.data.toList):s=t:=by
 cases s; cases t
 simp only at h
 congr 1
 exact Array.toList_inj.1 h
abbrev tok2Cs:List Comp:=[(false,[.slice 0]),(false,[.int .i64]),(false,[.int .i64]),(false,[.slice 0]),(false,[.int .i64])]
def tok2I (s:ByteArray) (h:Hp) (x:HVs (flat tok2Cs)) (n:Nat) (h':Hp):Prop :=
 ∃ (k:Nat) (acc:List Tok),x.2.2.2.2.1=(k:Int)∧k≤s.size∧n=s.size-k ∧
  SL h' h.size 101 4 x.2.2.2.1.1 x.2.2.2.1.2.1 x.2.2.2.1.2.2 (acc.map enc)∧Ext h h' ∧
  (∃ f,s.size-k<f∧lexS s=lexF s f k acc)∧acc.length≤k
def tok2Post (s:ByteArray) (h:Hp) (v:Value) (h':Hp):Prop :=
 ∃ p l c,v=.tuple #[.slice p l c,.int .i64 (lexS s).2.1,.int .i64 (lexS s).2.2]∧SL h' h.size 101 4 p l c ((lexS s).1.map enc)∧Ext h h'
def pushT (s0:ByteArray) (p1:Option Addr) (l2 l3:Nat) (n4 n5:Int) (p6:Option Addr) (l7 l8:Nat) (kind num n9 n11:Int):T :=
 T.need (((0:Int)≤n9)∧((n9≤n11)∧(n11≤(s0.size:Int)))) <|
 T.sem Tryz.prog (Instr.buildSlice 98 1 #[(0,.agg #[.int .i64 kind,.string (ByteArray.extract s0 (Int.toNat n9) (Int.toNat n11)),.int .u32 num,.int .i64 n9])]) false [(false,[.slice 0])] <| fun (p14:Option Addr) (l15:Nat) (l16:Nat) =>
 T.sem Tryz.prog (Builtin.append_ #[98,98] 98 #[.slice p6 l7 l8,.slice p14 l15 l16]) false [(false,[.slice 0])] <| fun (p17:Option Addr) (l18:Nat) (l19:Nat) =>
 T.again 0 [.slice p1 l2 l3,.int .i64 n4,.int .i64 n5,.slice p17 l18 l19,.int .i64 n11]
theorem push2_ok {s:ByteArray} {h h2:Hp} {L:Lp} {K:Value→Hp→Prop} {k k' kind num:Nat} {acc:List Tok} {p1 p6:Option Addr} {l2 l3 l7 l8:Nat} {n4 n5 nk' nkind nnum:Int} (hs:s.size≤2^40) (hle:k≤s.size)
  (hL:L[0]?=some (Jl (cs:=tok2Cs) (tok2I s h) (s.size-k))) (e1:nk'=(k':Int)) (e2:nkind=(kind:Int)) (e3:nnum=(num:Int))
  (hstep:lexStep s k=.tok ⟨kind,s.extract k k',num,k⟩ k') (hsl:SL h2 h.size 101 4 p6 l7 l8 (acc.map enc)) (hext:Ext h h2)
  (hlex:∃ f,s.size-k<f∧lexS s=lexF s f k acc) (hacc:acc.length≤k):pushT s p1 l2 l3 n4 n5 p6 l7 l8 nkind nnum k nk' L K h2:=by
 subst e1 e2 e3
 obtain ⟨hlt,hle'⟩:=lexStep_tok hle hstep
 have hlacc:l7=acc.length:=by rw [hsl.1,List.length_map]
 unfold pushT
 refine need_of ⟨by omega,by omega,by omega⟩ ?_
 rw [show Int.toNat (k:Int)=k by omega,show Int.toNat (k':Int)=k' by omega]
 refine push_of (z:=.agg #[.int .i64 0,.string ⟨#[]⟩,.int .u32 0,.int .i64 0]) (sz:=4) (by':=40) (e:=101) (vs:=enc ⟨kind,s.extract k k',num,k⟩) (by kernel_rfl) (by kernel_rfl) rfl (by omega) (by omega) (by kernel_rfl) rfl rfl hsl hext.size (by omega) (by omega) ?_
 intro p' c' h6 hsl6 hch6 _
 refine again_mk (cs:=tok2Cs) ((p1,l2,l3),n4,n5,(p',l7+1,c'),(k':Int),()) (s.size-k') hL (by omega) rfl ?_
 refine ⟨k',acc++[⟨kind,s.extract k k',num,k⟩],rfl,hle',rfl,?_,?_,?_,?_⟩
 ·rw [List.map_append]; exact hsl6
 ·exact Ch.trans hext hch6 (fun i hi hlt=>by
   cases p6 with
   | none=>simp [blkOf] at hi
   | some a =>
    obtain ⟨g,pre,rest,rfl,hbg,_⟩:=hsl.2.2
    simp [blkOf] at hi; omega)
 ·obtain ⟨f,hf,hl⟩:=hlex
  refine ⟨f-1,by omega,?_⟩
  rw [hl,show f=(f-1)+1 by omega,lexF_tok hstep]
  rfl
 ·rw [List.length_append]; simp; omega
def nameTail (s0:ByteArray) (p1:Option Addr) (l2 l3:Nat) (n4 n5:Int) (p6:Option Addr) (l7 l8:Nat) (n9 n11:Int):T :=
 cond (decide ((IntKind.wrap .i64 (n11-n9))>(32:Int)))
  (T.ret (.tuple #[.slice none 0 0,.int .i64 n9,.int .i64 (20:Int)]))
  (pushT s0 p1 l2 l3 n4 n5 p6 l7 l8 1 0 n9 n11)
theorem lexF_move {s:ByteArray} {f k k':Nat} {acc:List Tok} (h:lexStep s k=lexStep s k'):lexF s (f+1) k acc=lexF s (f+1) k' acc:=by
 show (match lexStep s k with
  | .stop=>(acc,0,0)
  | .wrong a=>([],a,20)
  | .tok t k'=>lexF s f k' (acc++[t]))=(match lexStep s k' with
  | .stop=>(acc,0,0)
  | .wrong a=>([],a,20)
  | .tok t k'=>lexF s f k' (acc++[t]))
 rw [h]
theorem drop_cons {s:ByteArray} {k:Nat} (hk:k<s.size):s.data.toList.drop k=s.data.toList.getD k 0::s.data.toList.drop (k+1):=by
 have hsz:s.data.toList.length=s.size:=by simp
 rw [List.drop_eq_getElem_cons (by omega)]
 congr 1
 rw [List.getD_eq_getElem?_getD,List.getElem?_eq_getElem (by omega)]; rfl
theorem lexStep_blank {s:ByteArray} {k:Nat} (hk:k<s.size) (hb:blanksL.contains (s.data.toList.getD k 0)=true):lexStep s k=lexStep s (k+1):=by
 unfold lexStep
 have:rowN (s.data.toList.drop k) blanksL=rowN (s.data.toList.drop (k+1)) blanksL+1:=by
  rw [drop_cons hk]
  unfold rowN
  rw [List.takeWhile_cons,hb]
  simp
 rw [this]
 congr 1
 omega
theorem lexStep_none {s:ByteArray} {k:Nat} (hb:k<s.size→blanksL.contains (s.data.toList.getD k 0)=false):lexStep s k=lexAt s k:=by
 have hsz:s.data.toList.length=s.size:=by simp
 unfold lexStep
 have:rowN (s.data.toList.drop k) blanksL=0:=by
  rcases Nat.lt_or_ge k s.size with hk | hk
  ·rw [drop_cons hk]
   unfold rowN
   rw [List.takeWhile_cons,hb hk]
   simp
  ·rw [List.drop_eq_nil_of_le (by omega)]; rfl
 rw [this,Nat.add_zero]
theorem tokens2_hc (s:ByteArray) (h:Hp) (hs:s.size≤2^40):HC Tryz.prog 48 #[.string s] h (tok2Post s h):=by
 refine hcr_of (args:=[.string s]) mixed Tryz.func48 (by kernel_rfl) (t_spandrelref2_Tokens_eq s) ?_
 unfold t_spandrelref2_Tokens
 have hsz:s.data.toList.length=s.size:=by simp
 refine loop_of (cs:=tok2Cs) (tok2I s h) ((none,0,0),(0:Int),(0:Int),(none,0,0),(0:Int),()) s.size rfl
  ⟨0,[],rfl,by omega,by omega,SL.nil _ _ _ _,Ch.refl _ _,⟨s.size+1,by omega,rfl⟩,by simp⟩ ?_
 rintro ⟨⟨p1,l2,l3⟩,n4,n5,⟨p6,l7,l8⟩,n9,⟨⟩⟩ m h2 ⟨k,acc,hk,hle,rfl,hsl,hext,hlex,hacc⟩
 simp only at hk hsl
 subst hk
 dsimp only [tok2Cs,flat,unc,unc1,nA,cA]
 have stop:lexStep s k=.stop→tok2Post s h (.tuple #[.slice p6 l7 l8,.int .i64 0,.int .i64 0]) h2:=by
  intro hst
  obtain ⟨f,hf,hlx⟩:=hlex
  obtain ⟨f,rfl⟩:∃ f',f=f'+1:=⟨f-1,by omega⟩
  have he:lexS s=(acc,0,0):=by rw [hlx,lexF_stop hst]
  exact ⟨p6,l7,l8,by rw [he]; rfl,by rw [he]; exact hsl,hext⟩
 have wrong:lexStep s k=.wrong k→tok2Post s h (.tuple #[.slice none 0 0,.int .i64 k,.int .i64 20]) h2:=by
  intro hst
  obtain ⟨f,hf,hlx⟩:=hlex
  obtain ⟨f,rfl⟩:∃ f',f=f'+1:=⟨f-1,by omega⟩
  have he:lexS s=([],k,20):=by rw [hlx,lexF_wrong hst]
  exact ⟨none,0,0,by rw [he]; rfl,by rw [he]; exact SL.nil _ _ _ _,hext⟩
 refine cond_mk (fun h1=>?_) (fun h1=>?_)
 ·have h1:=of_decide_eq_true h1
  have hlt:k<s.size:=by omega
  refine need_of ⟨by omega,by omega⟩ ?_
  have hb:sbyte s (k:Int)=cN (s.data.toList.getD k 0):=by rw [sbyte_cN,show Int.toNat (k:Int)=k by omega]
  have hw1:IntKind.wrap .i64 ((k:Int)+1)=((k+1:Nat):Int):=by rw [wrap_i64 (by omega) (by omega)]; omega
  rw [hb,hw1]
  have blank:blanksL.contains (s.data.toList.getD k 0)=true→(T.again 0 [.slice p1 l2 l3,.int .i64 n4,.int .i64 n5,.slice p6 l7 l8,.int .i64 ((k+1:Nat):Int)]) [Jl (cs:=tok2Cs) (tok2I s h) (s.size-k)] (tok2Post s h) h2:=by
   intro hbl
   refine again_mk (cs:=tok2Cs) ((p1,l2,l3),n4,n5,(p6,l7,l8),((k+1:Nat):Int),()) (s.size-(k+1)) rfl (by omega) rfl ?_
   refine ⟨k+1,acc,rfl,by omega,rfl,hsl,hext,?_,by omega⟩
   obtain ⟨f,hf,hlx⟩:=hlex
   obtain ⟨f,rfl⟩:∃ f',f=f'+1:=⟨f-1,by omega⟩
   exact ⟨f+1,by omega,by rw [hlx,lexF_move (lexStep_blank hlt hbl)]⟩
  refine cond_mk (fun h59=>?_) (fun h59=>?_)
  ·have h59:=(cN_eq _ 59 rfl).1 (eq_of_beq h59)
   refine stop ?_
   rw [lexStep_none (fun _=>by rw [h59]; rfl)]
   unfold lexAt
   rw [if_neg (by omega),if_pos h59]
  have h2':=fun hh=>ne_of_beq_false h59 ((cN_eq _ 59 rfl).2 hh)
  refine cond_mk (fun h3=>?_) (fun h3=>?_)
  ·have h3:=(cN_eq _ 9 rfl).1 (eq_of_beq h3)
   exact blank (by rw [h3]; rfl)
  have h3':=fun hh=>ne_of_beq_false h3 ((cN_eq _ 9 rfl).2 hh)
  refine cond_mk (fun h4=>?_) (fun h4=>?_)
  ·have h4:=(cN_eq _ 13 rfl).1 (eq_of_beq h4)
   exact blank (by rw [h4]; rfl)
  have h4':=fun hh=>ne_of_beq_false h4 ((cN_eq _ 13 rfl).2 hh)
  refine cond_mk (fun h5=>?_) (fun h5=>?_)
  ·have h5:=(cN_eq _ 32 rfl).1 (eq_of_beq h5)
   exact blank (by rw [h5]; rfl)
  have h5':=fun hh=>ne_of_beq_false h5 ((cN_eq _ 32 rfl).2 hh)
  have hnone:lexStep s k=lexAt s k:=lexStep_none (fun _=>by
   simp only [blanksL,List.contains_cons,List.contains_nil,Bool.or_false,Bool.or_eq_false_iff,beq_eq_false_iff_ne]
   exact ⟨h3',h4',h5'⟩)
  have hA:=lexAt.eq_def s k
  rw [if_neg (by omega),if_neg h2'] at hA
  have hAD:=lexAt_lexD s k hle
  have hD0:(s.data.toList.drop k).getD 0 0=s.data.toList.getD k 0:=by rw [getD_drop',Nat.add_zero]
  have hDne:s.data.toList.drop k≠[]:=by rw [drop_cons hlt]; simp
  have num:(isDig (s.data.toList.getD k 0)=true∨s.data.toList.getD k 0=39) →
    (T.call Tryz.prog 72 [.string s,.int .i64 k] true [(false,[.int .u32]),(false,[.int .i64])] <| fun (n12:Int) (n13:Int) =>
     cond (n13==(0:Int))
      (T.ret (.tuple #[.slice none 0 0,.int .i64 k,.int .i64 (20:Int)]))
      (pushT s p1 l2 l3 n4 n5 p6 l7 l8 2 n12 k n13)) [Jl (cs:=tok2Cs) (tok2I s h) (s.size-k)] (tok2Post s h) h2:=by
   intro hd
   refine call_ii (number2_hc s k _ hs hlt hd) ?_
   have hl:=lexD_num (D:=s.data.toList.drop k) (by rw [hD0]; exact hd) hDne
   refine cond_mk (fun h6=>?_) (fun h6=>?_)
   ·have h6:((if (numR (s.data.toList.drop k)).2=0 then (0:Nat) else k+(numR (s.data.toList.drop k)).2:Nat):Int)=0:=eq_of_beq h6
    have h7:(numR (s.data.toList.drop k)).2=0:=by
     by_cases h7:(numR (s.data.toList.drop k)).2=0
     ·exact h7
     ·rw [if_neg h7] at h6; omega
    rw [if_pos h7] at hl
    refine wrong ?_
    rw [hnone,hAD,hl]
    rfl
   ·have h6:((if (numR (s.data.toList.drop k)).2=0 then (0:Nat) else k+(numR (s.data.toList.drop k)).2:Nat):Int)≠0:=ne_of_beq_false h6
    have h7:(numR (s.data.toList.drop k)).2≠0:=fun h7=>by rw [if_pos h7] at h6; exact h6 rfl
    rw [if_neg h7] at hl
    refine push2_ok (k':=k+(numR (s.data.toList.drop k)).2) (kind:=2) (num:=(numR (s.data.toList.drop k)).1) hs hle rfl (by rw [if_neg h7]) rfl rfl ?_ hsl hext hlex hacc
    rw [hnone,hAD,hl]
    rfl
  refine call_bool (letter_hc _ _) (cond_mk (fun h6=>?_) (fun h6=>?_))
  ·rw [if_pos h6] at hA
   have hr:=rowN_le (s.data.toList.drop k) gluedL
   rw [List.length_drop] at hr
   have tail:(nameTail s p1 l2 l3 n4 n5 p6 l7 l8 k ((k+rowN (s.data.toList.drop k) gluedL:Nat):Int))=(nameTail s p1 l2 l3 n4 n5 p6 l7 l8 k ((k+rowN (s.data.toList.drop k) gluedL:Nat):Int)):=rfl
   have tailok:∀ Q,(nameTail s p1 l2 l3 n4 n5 p6 l7 l8 k ((k+rowN (s.data.toList.drop k) gluedL:Nat):Int)) [Jl (cs:=tok2Cs) (tok2I s h) (s.size-k),Q] (tok2Post s h) h2:=by
    intro Q
    unfold nameTail
    have hw:IntKind.wrap .i64 (((k+rowN (s.data.toList.drop k) gluedL:Nat):Int)-(k:Int))=(rowN (s.data.toList.drop k) gluedL:Int):=by rw [wrap_i64 (by omega) (by omega)]; omega
    rw [hw]
    refine cond_mk (fun h7=>?_) (fun h7=>?_)
    ·have h7:=of_decide_eq_true h7
     rw [if_pos (by omega)] at hA
     exact wrong (hnone.trans hA)
    ·have h7:=of_decide_eq_false h7
     rw [if_neg (by omega)] at hA
     exact push2_ok (kind:=1) (num:=0) hs hle rfl rfl rfl rfl (hnone.trans hA) hsl hext hlex hacc
   clear tail
   refine loop_of (cs:=[(false,[.int .i64])]) (fun x n h'=>h'=h2∧∃ j:Nat,x.1=((k+j:Nat):Int)∧j≤rowN (s.data.toList.drop k) gluedL∧n=rowN (s.data.toList.drop k) gluedL-j)
    ((k:Int),()) (rowN (s.data.toList.drop k) gluedL) rfl ⟨rfl,0,rfl,by omega,by omega⟩ ?_
   rintro ⟨n11,⟨⟩⟩ m h3 ⟨rfl,j,hn11,hjr,rfl⟩
   simp only at hn11
   subst hn11
   dsimp only [flat,unc,unc1,nA,cA]
   have hst:=rowN_step (s.data.toList.drop k) gluedL j hjr
   rw [getD_drop',show gluedL=lettersL++digitsL from rfl,glued_is,List.length_drop,← show gluedL=lettersL++digitsL from rfl] at hst
   have hw2:k+j<s.size→IntKind.wrap .i64 (((k+j:Nat):Int)+1)=((k+(j+1):Nat):Int):=fun _=>by rw [wrap_i64 (by omega) (by omega)]; omega
   refine cond_mk (fun h7=>?_) (fun h7=>?_)
   ·have h7:=of_decide_eq_true h7
    have hst:=hst (by omega)
    have hb:sbyte s ((k+j:Nat):Int)=cN (s.data.toList.getD (k+j) 0):=by rw [sbyte_cN,show Int.toNat ((k+j:Nat):Int)=k+j by omega]
    refine need_of ⟨by omega,by omega⟩ ?_
    rw [hb,hw2 (by omega)]
    refine call_bool (letter_hc _ _) (cond_mk (fun h8=>?_) (fun h8=>?_))
    ·have h9:=hst.2 (by rw [h8]; rfl)
     exact again_mk (cs:=[(false,[.int .i64])]) (((k+(j+1):Nat):Int),()) (rowN (s.data.toList.drop k) gluedL-(j+1)) rfl (by omega) rfl ⟨rfl,j+1,rfl,by omega,rfl⟩
    ·refine need_of ⟨by omega,by omega⟩ (call_bool (digit_hc _ _) (cond_mk (fun h9=>?_) (fun h9=>?_)))
     ·have h10:=hst.2 (by rw [h9]; simp)
      exact again_mk (cs:=[(false,[.int .i64])]) (((k+(j+1):Nat):Int),()) (rowN (s.data.toList.drop k) gluedL-(j+1)) rfl (by omega) rfl ⟨rfl,j+1,rfl,by omega,rfl⟩
     ·have h10:j=rowN (s.data.toList.drop k) gluedL:=by
       have:¬ j<rowN (s.data.toList.drop k) gluedL:=fun hh=>by have:=hst.1 hh; rw [h8,h9] at this; cases this
       omega
      subst h10
      exact tailok _
   ·have h7:=of_decide_eq_false h7
    have h10:j=rowN (s.data.toList.drop k) gluedL:=by omega
    subst h10
    exact tailok _
  rw [if_neg (by rw [h6]; simp)] at hA
  refine call_bool (digit_hc _ _) (cond_mk (fun h7=>?_) (fun h7=>?_))
  ·exact num (.inl h7)
  rw [if_neg (by rw [h7]; simp)] at hA
  refine cond_mk (fun h8=>?_) (fun h8=>?_)
  ·exact num (.inr ((cN_eq _ 39 rfl).1 (eq_of_beq h8)))
  rw [if_neg (fun hh=>ne_of_beq_false h8 ((cN_eq _ 39 rfl).2 hh))] at hA
  have sign:signsL.contains (s.data.toList.getD k 0)=true→(pushT s p1 l2 l3 n4 n5 p6 l7 l8 3 0 k ((k+1:Nat):Int)) [Jl (cs:=tok2Cs) (tok2I s h) (s.size-k)] (tok2Post s h) h2:=by
   intro hsg
   rw [if_pos hsg] at hA
   exact push2_ok (kind:=3) (num:=0) hs hle rfl rfl rfl rfl (hnone.trans hA) hsl hext hlex hacc
  have sg:∀ (d:UInt8) (n:Int),cN d=n→signsL.contains d=true→(cN (s.data.toList.getD k 0) != n)=false→(pushT s p1 l2 l3 n4 n5 p6 l7 l8 3 0 k ((k+1:Nat):Int)) [Jl (cs:=tok2Cs) (tok2I s h) (s.size-k)] (tok2Post s h) h2:=by
   intro d n hd hc he
   have he:cN (s.data.toList.getD k 0)=n:=by simpa using he
   exact sign (by rw [(cN_eq _ d hd).1 he]; exact hc)
  have ns:∀ (d:UInt8) (n:Int),cN d=n→(cN (s.data.toList.getD k 0) != n)=true→s.data.toList.getD k 0≠d:=by
   intro d n hd he hh
   have he:cN (s.data.toList.getD k 0)≠n:=by simpa using he
   exact he ((cN_eq _ d hd).2 hh)
  refine cond_mk (fun g1=>?_) (fun g1=>sg 58 58 rfl rfl g1)
  refine cond_mk (fun g2=>?_) (fun g2=>sg 44 44 rfl rfl g2)
  refine cond_mk (fun g3=>?_) (fun g3=>sg 40 40 rfl rfl g3)
  refine cond_mk (fun g4=>?_) (fun g4=>sg 41 41 rfl rfl g4)
  refine cond_mk (fun g5=>?_) (fun g5=>sg 43 43 rfl rfl g5)
  refine cond_mk (fun g6=>?_) (fun g6=>sg 45 45 rfl rfl g6)
  refine cond_mk (fun g7=>?_) (fun g7=>sg 42 42 rfl rfl g7)
  refine cond_mk (fun g8=>?_) (fun g8=>sg 61 61 rfl rfl g8)
  rw [if_neg (by
   simp only [signsL,List.contains_cons,List.contains_nil,Bool.or_false,Bool.or_eq_true,beq_iff_eq]
   rintro (hh | hh | hh | hh | hh | hh | hh | hh)
   ·exact ns 58 58 rfl g1 hh
   ·exact ns 44 44 rfl g2 hh
   ·exact ns 40 40 rfl g3 hh
   ·exact ns 41 41 rfl g4 hh
   ·exact ns 43 43 rfl g5 hh
   ·exact ns 45 45 rfl g6 hh
   ·exact ns 42 42 rfl g7 hh
   ·exact ns 61 61 rfl g8 hh)] at hA
  exact wrong (hnone.trans hA)
 ·have h1:=of_decide_eq_false h1
  refine stop ?_
  rw [lexStep_none (fun hh=>by omega)]
  unfold lexAt
  rw [if_pos (by omega)]
theorem chain_len {s:ByteArray} {k:Nat} {ts:List Tok} (h:Chain s k ts):k+ts.length≤s.size:=by
 induction h with
 | stop k hk _=>simpa using hk
 | tok k kind n m ts hk hD hc ih =>
  have:=(lexD_pos hD).1
  rw [List.length_cons]
  omega
theorem lexS_len (s:ByteArray):(lexS s).1.length≤s.size:=by
 rcases lexS_cases s with ⟨hc,_⟩ | ⟨a,ha,he⟩
 ·have:=chain_len hc; omega
 ·rw [he]; simp
structure Ent where
 p:Option Addr
 l:Nat
 c:Nat
 q:Option Addr
 d:Nat
 ts:List Tok
def Ent.one (e:Ent):List Value:=[.slice e.p e.l e.c]
def Ent.two (e:Ent):List Value:=[.slice e.q e.l e.d]
theorem blkOf_add (p:Option Addr) (k:Nat):blkOf (p.map fun a=>a.add k)=blkOf p:=by
 cases p with
 | none=>rfl
 | some a=>simp [blkOf,add_block]
end Go.Sx
