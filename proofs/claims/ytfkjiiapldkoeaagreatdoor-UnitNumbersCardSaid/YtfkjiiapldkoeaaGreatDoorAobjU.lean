/- Trees of functions, each checked by the kernel against the code. No condition. -/
import Derived.Test.YtfkjiiapldkoeaaGreatDoorSxF
import Derived.Test.YtfkjiiapldkoeaaGreatDoorProg
import Derived.KernelRfl
set_option linter.unusedVariables false
set_option linter.unusedSimpArgs false
set_option linter.deprecated false
set_option maxRecDepth 100000
namespace Go.Sx
open Go.Proofs
def t_isa_registers_r1 (o:Int) (a:Int) (b:Int) (n:Int) (f:Int):T :=
 T.new [vI o,vI a,vI b,.int .i32 n,vI f] 90 <| fun a1 =>
 T.loads (a1.add 1) [.int .i64] <| fun n2 =>
 cond (n2==(0:Int))
 (T.loads (a1.add 2) [.int .i64] <| fun n3 =>
 T.ret (.bool (n3==(0:Int))))
 (T.ret (.bool false))
theorem t_isa_registers_r1_eq (o:Int) (a:Int) (b:Int) (n:Int) (f:Int):xfun Tryz.prog [] Tryz.f143 [.agg #[vI o,vI a,vI b,.int .i32 n,vI f],vI 1]=t_isa_registers_r1 o a b n f:=by kernel_rfl
def t_isa_registers_r2 (o:Int) (a:Int) (b:Int) (n:Int) (f:Int):T :=
 T.new [vI o,vI a,vI b,.int .i32 n,vI f] 90 <| fun a1 =>
 T.loads (a1.add 1) [.int .i64] <| fun n2 =>
 T.call Tryz.prog 172 [vI n2,vI 8] false [(false,[.bool])] <| fun b3 =>
 cond b3
 (T.loads (a1.add 2) [.int .i64] <| fun n4 =>
 T.ret (.bool (n4==(0:Int))))
 (T.ret (.bool false))
theorem t_isa_registers_r2_eq (o:Int) (a:Int) (b:Int) (n:Int) (f:Int):xfun Tryz.prog [] Tryz.f143 [.agg #[vI o,vI a,vI b,.int .i32 n,vI f],vI 2]=t_isa_registers_r2 o a b n f:=by kernel_rfl
def t_isa_registers_r3 (o:Int) (a:Int) (b:Int) (n:Int) (f:Int):T :=
 T.new [vI o,vI a,vI b,.int .i32 n,vI f] 90 <| fun a1 =>
 T.loads (a1.add 1) [.int .i64] <| fun n2 =>
 T.call Tryz.prog 172 [vI n2,vI 4] false [(false,[.bool])] <| fun b3 =>
 cond b3
 (T.loads (a1.add 2) [.int .i64] <| fun n4 =>
 T.ret (.bool (n4==(0:Int))))
 (T.ret (.bool false))
theorem t_isa_registers_r3_eq (o:Int) (a:Int) (b:Int) (n:Int) (f:Int):xfun Tryz.prog [] Tryz.f143 [.agg #[vI o,vI a,vI b,.int .i32 n,vI f],vI 3]=t_isa_registers_r3 o a b n f:=by kernel_rfl
def t_isa_registers_r4 (o:Int) (a:Int) (b:Int) (n:Int) (f:Int):T :=
 T.new [vI o,vI a,vI b,.int .i32 n,vI f] 90 <| fun a1 =>
 T.loads (a1.add 1) [.int .i64] <| fun n2 =>
 T.call Tryz.prog 172 [vI n2,vI 8] false [(false,[.bool])] <| fun b3 =>
 cond b3
 (T.loads (a1.add 2) [.int .i64] <| fun n4 =>
 T.call Tryz.prog 172 [vI n4,vI 8] false [(false,[.bool])] <| fun b5 =>
 T.ret (.bool b5))
 (T.ret (.bool false))
theorem t_isa_registers_r4_eq (o:Int) (a:Int) (b:Int) (n:Int) (f:Int):xfun Tryz.prog [] Tryz.f143 [.agg #[vI o,vI a,vI b,.int .i32 n,vI f],vI 4]=t_isa_registers_r4 o a b n f:=by kernel_rfl
def t_isa_registers_r5 (o:Int) (a:Int) (b:Int) (n:Int) (f:Int):T :=
 T.new [vI o,vI a,vI b,.int .i32 n,vI f] 90 <| fun a1 =>
 T.loads (a1.add 1) [.int .i64] <| fun n2 =>
 T.call Tryz.prog 172 [vI n2,vI 4] false [(false,[.bool])] <| fun b3 =>
 cond b3
 (T.loads (a1.add 2) [.int .i64] <| fun n4 =>
 T.call Tryz.prog 172 [vI n4,vI 4] false [(false,[.bool])] <| fun b5 =>
 T.ret (.bool b5))
 (T.ret (.bool false))
theorem t_isa_registers_r5_eq (o:Int) (a:Int) (b:Int) (n:Int) (f:Int):xfun Tryz.prog [] Tryz.f143 [.agg #[vI o,vI a,vI b,.int .i32 n,vI f],vI 5]=t_isa_registers_r5 o a b n f:=by kernel_rfl
def t_isa_registers_r6 (o:Int) (a:Int) (b:Int) (n:Int) (f:Int):T :=
 T.new [vI o,vI a,vI b,.int .i32 n,vI f] 90 <| fun a1 =>
 T.loads (a1.add 1) [.int .i64] <| fun n2 =>
 T.call Tryz.prog 172 [vI n2,vI 8] false [(false,[.bool])] <| fun b3 =>
 cond b3
 (T.loads (a1.add 2) [.int .i64] <| fun n4 =>
 T.call Tryz.prog 172 [vI n4,vI 4] false [(false,[.bool])] <| fun b5 =>
 T.ret (.bool b5))
 (T.ret (.bool false))
theorem t_isa_registers_r6_eq (o:Int) (a:Int) (b:Int) (n:Int) (f:Int):xfun Tryz.prog [] Tryz.f143 [.agg #[vI o,vI a,vI b,.int .i32 n,vI f],vI 6]=t_isa_registers_r6 o a b n f:=by kernel_rfl
def t_isa_registers_r7 (o:Int) (a:Int) (b:Int) (n:Int) (f:Int):T :=
 T.new [vI o,vI a,vI b,.int .i32 n,vI f] 90 <| fun a1 =>
 T.loads (a1.add 1) [.int .i64] <| fun n2 =>
 T.call Tryz.prog 172 [vI n2,vI 4] false [(false,[.bool])] <| fun b3 =>
 cond b3
 (T.loads (a1.add 2) [.int .i64] <| fun n4 =>
 T.call Tryz.prog 172 [vI n4,vI 8] false [(false,[.bool])] <| fun b5 =>
 cond b5
 (T.loads (a1.add 3) [.int .i32] <| fun n6 =>
 cond (decide (n6≥(0:Int)))
 (T.loads (a1.add 3) [.int .i32] <| fun n7 =>
 T.ret (.bool (decide (n7<(8:Int)))))
 (T.ret (.bool false)))
 (T.ret (.bool false)))
 (T.ret (.bool false))
theorem t_isa_registers_r7_eq (o:Int) (a:Int) (b:Int) (n:Int) (f:Int):xfun Tryz.prog [] Tryz.f143 [.agg #[vI o,vI a,vI b,.int .i32 n,vI f],vI 7]=t_isa_registers_r7 o a b n f:=by kernel_rfl
def t_isa_registers_r8 (o:Int) (a:Int) (b:Int) (n:Int) (f:Int):T :=
 T.new [vI o,vI a,vI b,.int .i32 n,vI f] 90 <| fun a1 =>
 T.loads (a1.add 1) [.int .i64] <| fun n2 =>
 T.call Tryz.prog 172 [vI n2,vI 8] false [(false,[.bool])] <| fun b3 =>
 cond b3
 (T.loads (a1.add 2) [.int .i64] <| fun n4 =>
 T.ret (.bool (n4==(0:Int))))
 (T.ret (.bool false))
theorem t_isa_registers_r8_eq (o:Int) (a:Int) (b:Int) (n:Int) (f:Int):xfun Tryz.prog [] Tryz.f143 [.agg #[vI o,vI a,vI b,.int .i32 n,vI f],vI 8]=t_isa_registers_r8 o a b n f:=by kernel_rfl
def t_isa_registers_r9 (o:Int) (a:Int) (b:Int) (n:Int) (f:Int):T :=
 T.new [vI o,vI a,vI b,.int .i32 n,vI f] 90 <| fun a1 =>
 T.loads (a1.add 1) [.int .i64] <| fun n2 =>
 cond (n2==(0:Int))
 (T.loads (a1.add 2) [.int .i64] <| fun n3 =>
 T.ret (.bool (n3==(0:Int))))
 (T.ret (.bool false))
theorem t_isa_registers_r9_eq (o:Int) (a:Int) (b:Int) (n:Int) (f:Int):xfun Tryz.prog [] Tryz.f143 [.agg #[vI o,vI a,vI b,.int .i32 n,vI f],vI 9]=t_isa_registers_r9 o a b n f:=by kernel_rfl
def t_isa_registers_r10 (o:Int) (a:Int) (b:Int) (n:Int) (f:Int):T :=
 T.new [vI o,vI a,vI b,.int .i32 n,vI f] 90 <| fun a1 =>
 T.loads (a1.add 1) [.int .i64] <| fun n2 =>
 T.call Tryz.prog 172 [vI n2,vI 8] false [(false,[.bool])] <| fun b3 =>
 cond b3
 (T.loads (a1.add 2) [.int .i64] <| fun n4 =>
 T.ret (.bool (n4==(0:Int))))
 (T.ret (.bool false))
theorem t_isa_registers_r10_eq (o:Int) (a:Int) (b:Int) (n:Int) (f:Int):xfun Tryz.prog [] Tryz.f143 [.agg #[vI o,vI a,vI b,.int .i32 n,vI f],vI 10]=t_isa_registers_r10 o a b n f:=by kernel_rfl
def t_isa_registers_r11 (o:Int) (a:Int) (b:Int) (n:Int) (f:Int):T :=
 T.new [vI o,vI a,vI b,.int .i32 n,vI f] 90 <| fun a1 =>
 T.loads (a1.add 1) [.int .i64] <| fun n2 =>
 T.call Tryz.prog 172 [vI n2,vI 8] false [(false,[.bool])] <| fun b3 =>
 cond b3
 (T.loads (a1.add 2) [.int .i64] <| fun n4 =>
 T.ret (.bool (n4==(0:Int))))
 (T.ret (.bool false))
theorem t_isa_registers_r11_eq (o:Int) (a:Int) (b:Int) (n:Int) (f:Int):xfun Tryz.prog [] Tryz.f143 [.agg #[vI o,vI a,vI b,.int .i32 n,vI f],vI 11]=t_isa_registers_r11 o a b n f:=by kernel_rfl
def t_isa_registers_r12 (o:Int) (a:Int) (b:Int) (n:Int) (f:Int):T :=
 T.new [vI o,vI a,vI b,.int .i32 n,vI f] 90 <| fun a1 =>
 T.loads (a1.add 1) [.int .i64] <| fun n2 =>
 cond (n2==(0:Int))
 (T.loads (a1.add 2) [.int .i64] <| fun n3 =>
 T.ret (.bool (n3==(0:Int))))
 (T.ret (.bool false))
theorem t_isa_registers_r12_eq (o:Int) (a:Int) (b:Int) (n:Int) (f:Int):xfun Tryz.prog [] Tryz.f143 [.agg #[vI o,vI a,vI b,.int .i32 n,vI f],vI 12]=t_isa_registers_r12 o a b n f:=by kernel_rfl
def t_isa_registers_r13 (o:Int) (a:Int) (b:Int) (n:Int) (f:Int):T :=
 T.new [vI o,vI a,vI b,.int .i32 n,vI f] 90 <| fun a1 =>
 T.loads (a1.add 1) [.int .i64] <| fun n2 =>
 T.call Tryz.prog 172 [vI n2,vI 8] false [(false,[.bool])] <| fun b3 =>
 cond b3
 (T.loads (a1.add 2) [.int .i64] <| fun n4 =>
 T.ret (.bool (n4==(0:Int))))
 (T.ret (.bool false))
theorem t_isa_registers_r13_eq (o:Int) (a:Int) (b:Int) (n:Int) (f:Int):xfun Tryz.prog [] Tryz.f143 [.agg #[vI o,vI a,vI b,.int .i32 n,vI f],vI 13]=t_isa_registers_r13 o a b n f:=by kernel_rfl
def t_isa_number_n1 (o:Int) (a:Int) (b:Int) (n:Int) (f:Int):T :=
 T.new [vI o,vI a,vI b,.int .i32 n,vI f] 90 <| fun a1 =>
 T.loads (a1.add 3) [.int .i32] <| fun n2 =>
 T.ret (.bool (n2==(0:Int)))
theorem t_isa_number_n1_eq (o:Int) (a:Int) (b:Int) (n:Int) (f:Int):xfun Tryz.prog [] Tryz.f144 [.agg #[vI o,vI a,vI b,.int .i32 n,vI f],vI 1]=t_isa_number_n1 o a b n f:=by kernel_rfl
def t_isa_number_n2 (o:Int) (a:Int) (b:Int) (n:Int) (f:Int):T :=
 T.new [vI o,vI a,vI b,.int .i32 n,vI f] 90 <| fun a1 =>
 T.loads (a1.add 3) [.int .i32] <| fun n2 =>
 T.ret (.bool (n2==(0:Int)))
theorem t_isa_number_n2_eq (o:Int) (a:Int) (b:Int) (n:Int) (f:Int):xfun Tryz.prog [] Tryz.f144 [.agg #[vI o,vI a,vI b,.int .i32 n,vI f],vI 2]=t_isa_number_n2 o a b n f:=by kernel_rfl
def t_isa_number_n3 (o:Int) (a:Int) (b:Int) (n:Int) (f:Int):T :=
 T.new [vI o,vI a,vI b,.int .i32 n,vI f] 90 <| fun a1 =>
 T.loads (a1.add 3) [.int .i32] <| fun n2 =>
 T.ret (.bool (n2==(0:Int)))
theorem t_isa_number_n3_eq (o:Int) (a:Int) (b:Int) (n:Int) (f:Int):xfun Tryz.prog [] Tryz.f144 [.agg #[vI o,vI a,vI b,.int .i32 n,vI f],vI 3]=t_isa_number_n3 o a b n f:=by kernel_rfl
def t_isa_number_n4 (o:Int) (a:Int) (b:Int) (n:Int) (f:Int):T :=
 T.new [vI o,vI a,vI b,.int .i32 n,vI f] 90 <| fun a1 =>
 T.loads (a1.add 3) [.int .i32] <| fun n2 =>
 T.ret (.bool (n2==(0:Int)))
theorem t_isa_number_n4_eq (o:Int) (a:Int) (b:Int) (n:Int) (f:Int):xfun Tryz.prog [] Tryz.f144 [.agg #[vI o,vI a,vI b,.int .i32 n,vI f],vI 4]=t_isa_number_n4 o a b n f:=by kernel_rfl
def t_isa_number_n5 (o:Int) (a:Int) (b:Int) (n:Int) (f:Int):T :=
 T.new [vI o,vI a,vI b,.int .i32 n,vI f] 90 <| fun a1 =>
 T.loads (a1.add 3) [.int .i32] <| fun n2 =>
 T.ret (.bool (n2==(0:Int)))
theorem t_isa_number_n5_eq (o:Int) (a:Int) (b:Int) (n:Int) (f:Int):xfun Tryz.prog [] Tryz.f144 [.agg #[vI o,vI a,vI b,.int .i32 n,vI f],vI 5]=t_isa_number_n5 o a b n f:=by kernel_rfl
def t_isa_number_n6 (o:Int) (a:Int) (b:Int) (n:Int) (f:Int):T :=
 T.new [vI o,vI a,vI b,.int .i32 n,vI f] 90 <| fun a1 =>
 T.loads (a1.add 3) [.int .i32] <| fun n2 =>
 T.ret (.bool (n2==(0:Int)))
theorem t_isa_number_n6_eq (o:Int) (a:Int) (b:Int) (n:Int) (f:Int):xfun Tryz.prog [] Tryz.f144 [.agg #[vI o,vI a,vI b,.int .i32 n,vI f],vI 6]=t_isa_number_n6 o a b n f:=by kernel_rfl
def t_isa_number_n7 (o:Int) (a:Int) (b:Int) (n:Int) (f:Int):T :=
 T.new [vI o,vI a,vI b,.int .i32 n,vI f] 90 <| fun a1 =>
 T.ret (.bool true)
theorem t_isa_number_n7_eq (o:Int) (a:Int) (b:Int) (n:Int) (f:Int):xfun Tryz.prog [] Tryz.f144 [.agg #[vI o,vI a,vI b,.int .i32 n,vI f],vI 7]=t_isa_number_n7 o a b n f:=by kernel_rfl
def t_isa_number_n8 (o:Int) (a:Int) (b:Int) (n:Int) (f:Int):T :=
 T.new [vI o,vI a,vI b,.int .i32 n,vI f] 90 <| fun a1 =>
 T.loads (a1.add 3) [.int .i32] <| fun n2 =>
 T.call Tryz.prog 173 [.int .i32 n2,vI 1] false [(false,[.bool])] <| fun b3 =>
 T.ret (.bool b3)
theorem t_isa_number_n8_eq (o:Int) (a:Int) (b:Int) (n:Int) (f:Int):xfun Tryz.prog [] Tryz.f144 [.agg #[vI o,vI a,vI b,.int .i32 n,vI f],vI 8]=t_isa_number_n8 o a b n f:=by kernel_rfl
def t_isa_number_n9 (o:Int) (a:Int) (b:Int) (n:Int) (f:Int):T :=
 T.new [vI o,vI a,vI b,.int .i32 n,vI f] 90 <| fun a1 =>
 T.loads (a1.add 3) [.int .i32] <| fun n2 =>
 cond (decide (n2≥(0:Int)))
 (T.loads (a1.add 3) [.int .i32] <| fun n3 =>
 T.ret (.bool (decide (n3≤(255:Int)))))
 (T.ret (.bool false))
theorem t_isa_number_n9_eq (o:Int) (a:Int) (b:Int) (n:Int) (f:Int):xfun Tryz.prog [] Tryz.f144 [.agg #[vI o,vI a,vI b,.int .i32 n,vI f],vI 9]=t_isa_number_n9 o a b n f:=by kernel_rfl
def t_isa_number_n10 (o:Int) (a:Int) (b:Int) (n:Int) (f:Int):T :=
 T.new [vI o,vI a,vI b,.int .i32 n,vI f] 90 <| fun a1 =>
 T.ret (.bool true)
theorem t_isa_number_n10_eq (o:Int) (a:Int) (b:Int) (n:Int) (f:Int):xfun Tryz.prog [] Tryz.f144 [.agg #[vI o,vI a,vI b,.int .i32 n,vI f],vI 10]=t_isa_number_n10 o a b n f:=by kernel_rfl
def t_isa_number_n11 (o:Int) (a:Int) (b:Int) (n:Int) (f:Int):T :=
 T.new [vI o,vI a,vI b,.int .i32 n,vI f] 90 <| fun a1 =>
 T.loads (a1.add 3) [.int .i32] <| fun n2 =>
 cond (decide (n2≥(0:Int)))
 (T.loads (a1.add 3) [.int .i32] <| fun n3 =>
 T.ret (.bool (decide (n3≤(4095:Int)))))
 (T.ret (.bool false))
theorem t_isa_number_n11_eq (o:Int) (a:Int) (b:Int) (n:Int) (f:Int):xfun Tryz.prog [] Tryz.f144 [.agg #[vI o,vI a,vI b,.int .i32 n,vI f],vI 11]=t_isa_number_n11 o a b n f:=by kernel_rfl
def t_isa_number_n12 (o:Int) (a:Int) (b:Int) (n:Int) (f:Int):T :=
 T.new [vI o,vI a,vI b,.int .i32 n,vI f] 90 <| fun a1 =>
 T.loads (a1.add 3) [.int .i32] <| fun n2 =>
 T.loads (a1.add 4) [.int .i64] <| fun n3 =>
 T.call Tryz.prog 173 [.int .i32 n2,vI n3] false [(false,[.bool])] <| fun b4 =>
 T.ret (.bool b4)
theorem t_isa_number_n12_eq (o:Int) (a:Int) (b:Int) (n:Int) (f:Int):xfun Tryz.prog [] Tryz.f144 [.agg #[vI o,vI a,vI b,.int .i32 n,vI f],vI 12]=t_isa_number_n12 o a b n f:=by kernel_rfl
def t_isa_number_n13 (o:Int) (a:Int) (b:Int) (n:Int) (f:Int):T :=
 T.new [vI o,vI a,vI b,.int .i32 n,vI f] 90 <| fun a1 =>
 T.loads (a1.add 3) [.int .i32] <| fun n2 =>
 T.loads (a1.add 4) [.int .i64] <| fun n3 =>
 T.call Tryz.prog 173 [.int .i32 n2,vI n3] false [(false,[.bool])] <| fun b4 =>
 T.ret (.bool b4)
theorem t_isa_number_n13_eq (o:Int) (a:Int) (b:Int) (n:Int) (f:Int):xfun Tryz.prog [] Tryz.f144 [.agg #[vI o,vI a,vI b,.int .i32 n,vI f],vI 13]=t_isa_number_n13 o a b n f:=by kernel_rfl
def t_item_Right_c0 (k:Int) (s:ByteArray) (o:Int) (a:Int) (b:Int) (n:Int) (f:Int) (p:Option Addr) (l:Nat) (c:Nat) (m:Int) (q:Int):T :=
 T.new [vI k,.string s,vI o,vI a,vI b,.int .i32 n,vI f,.slice p l c,.int .u32 m,vI q] 96 <| fun a1 =>
 T.loads a1 [.int .i64] <| fun n2 =>
 T.new [vI 0,.string ⟨#[]⟩,vI 0,vI 0,vI 0,.int .i32 0,vI 0,.slice none 0 0,.int .u32 0,vI 0] 96 <| fun a3 =>
 T.stores a3 [vI n2,.string ⟨#[]⟩,vI 0,vI 0,vI 0,.int .i32 0,vI 0,.slice none 0 0,.int .u32 0,vI 0] <|
 T.loads a1 [.int .i64] <| fun n4 =>
 cond (n4==(1:Int))
 (T.loads (a1.add 1) [.string] <| fun s5 =>
 T.stores (a3.add 1) [.string s5] <|
 T.loads (a1.add 1) [.string] <| fun s6 =>
 T.call Tryz.prog 45 [.string s6] false [(false,[.bool])] <| fun b7 =>
 cond (!b7)
 (T.ret (vI 31))
 (T.loads (a1.add 1) [.string] <| fun s8 =>
 T.loads (a3.add 1) [.string] <| fun s9 =>
 cond (!((ByteArray.toList s8)==(ByteArray.toList s9)))
 (T.ret (vI 31))
 (T.loads (a1.add 2) [.int .i64,.int .i64,.int .i64,.int .i32,.int .i64] <| fun n10 n11 n12 n13 n14 =>
 T.loads (a3.add 2) [.int .i64,.int .i64,.int .i64,.int .i32,.int .i64] <| fun n15 n16 n17 n18 n19 =>
 T.sem Tryz.prog (Sx.cmpS (BinOp.neq) 90 (Operand.tmp 109) (Operand.tmp 111) (.agg #[vI n10,vI n11,vI n12,.int .i32 n13,vI n14]) (.agg #[vI n15,vI n16,vI n17,.int .i32 n18,vI n19])) false [(false,[.bool])] <| fun b20 =>
 cond b20
 (T.ret (vI 31))
 (T.loads (a1.add 9) [.int .i64] <| fun n21 =>
 T.loads (a3.add 9) [.int .i64] <| fun n22 =>
 cond (n21 != n22)
 (T.ret (vI 31))
 (T.loads (a1.add 7) [.slice 109,.int .u32] <| fun p23 l24 l25 n26 =>
 T.loads (a3.add 7) [.slice 109,.int .u32] <| fun p27 l28 l29 n30 =>
 T.call Tryz.prog 80 [.agg #[.slice p23 l24 l25,.int .u32 n26],.agg #[.slice p27 l28 l29,.int .u32 n30]] false [(false,[.bool])] <| fun b31 =>
 cond (!b31)
 (T.ret (vI 31))
 (T.ret (vI 0)))))))
 (cond (n4==(2:Int))
 (T.loads (a1.add 2) [.int .i64,.int .i64,.int .i64,.int .i32,.int .i64] <| fun n5 n6 n7 n8 n9 =>
 T.loads (a1.add 7) [.slice 109,.int .u32] <| fun p10 l11 l12 n13 =>
 T.stores (a3.add 2) [vI n5,vI n6,vI n7,.int .i32 n8,vI n9] <|
 T.stable [((a1.add 7),[.slice p10 l11 l12,.int .u32 n13])] <|
 T.stores (a3.add 7) [.slice p10 l11 l12,.int .u32 n13] <|
 T.loads a1 yI <| fun n14 s15 n16 n17 n18 n19 n20 p21 l22 l23 n24 n25 =>
 T.call Tryz.prog 78 [.agg #[vI n14,.string s15,vI n16,vI n17,vI n18,.int .i32 n19,vI n20,.slice p21 l22 l23,.int .u32 n24,vI n25]] false [(false,[.bool])] <| fun b26 =>
 cond (!b26)
 (T.ret (vI 31))
 (T.loads (a1.add 1) [.string] <| fun s27 =>
 T.loads (a3.add 1) [.string] <| fun s28 =>
 cond (!((ByteArray.toList s27)==(ByteArray.toList s28)))
 (T.ret (vI 31))
 (T.loads (a1.add 2) [.int .i64,.int .i64,.int .i64,.int .i32,.int .i64] <| fun n29 n30 n31 n32 n33 =>
 T.loads (a3.add 2) [.int .i64,.int .i64,.int .i64,.int .i32,.int .i64] <| fun n34 n35 n36 n37 n38 =>
 T.sem Tryz.prog (Sx.cmpS (BinOp.neq) 90 (Operand.tmp 109) (Operand.tmp 111) (.agg #[vI n29,vI n30,vI n31,.int .i32 n32,vI n33]) (.agg #[vI n34,vI n35,vI n36,.int .i32 n37,vI n38])) false [(false,[.bool])] <| fun b39 =>
 cond b39
 (T.ret (vI 31))
 (T.loads (a1.add 9) [.int .i64] <| fun n40 =>
 T.loads (a3.add 9) [.int .i64] <| fun n41 =>
 cond (n40 != n41)
 (T.ret (vI 31))
 (T.loads (a1.add 7) [.slice 109,.int .u32] <| fun p42 l43 l44 n45 =>
 T.loads (a3.add 7) [.slice 109,.int .u32] <| fun p46 l47 l48 n49 =>
 T.call Tryz.prog 80 [.agg #[.slice p42 l43 l44,.int .u32 n45],.agg #[.slice p46 l47 l48,.int .u32 n49]] false [(false,[.bool])] <| fun b50 =>
 cond (!b50)
 (T.ret (vI 31))
 (T.ret (vI 0)))))))
 (cond (n4==(3:Int))
 (T.loads (a1.add 9) [.int .i64] <| fun n5 =>
 T.stores (a3.add 9) [vI n5] <|
 T.loads (a1.add 9) [.int .i64] <| fun n6 =>
 T.call Tryz.prog 79 [vI n6] false [(false,[.bool])] <| fun b7 =>
 cond (!b7)
 (T.ret (vI 31))
 (T.loads (a1.add 1) [.string] <| fun s8 =>
 T.loads (a3.add 1) [.string] <| fun s9 =>
 cond (!((ByteArray.toList s8)==(ByteArray.toList s9)))
 (T.ret (vI 31))
 (T.loads (a1.add 2) [.int .i64,.int .i64,.int .i64,.int .i32,.int .i64] <| fun n10 n11 n12 n13 n14 =>
 T.loads (a3.add 2) [.int .i64,.int .i64,.int .i64,.int .i32,.int .i64] <| fun n15 n16 n17 n18 n19 =>
 T.sem Tryz.prog (Sx.cmpS (BinOp.neq) 90 (Operand.tmp 109) (Operand.tmp 111) (.agg #[vI n10,vI n11,vI n12,.int .i32 n13,vI n14]) (.agg #[vI n15,vI n16,vI n17,.int .i32 n18,vI n19])) false [(false,[.bool])] <| fun b20 =>
 cond b20
 (T.ret (vI 31))
 (T.loads (a1.add 9) [.int .i64] <| fun n21 =>
 T.loads (a3.add 9) [.int .i64] <| fun n22 =>
 cond (n21 != n22)
 (T.ret (vI 31))
 (T.loads (a1.add 7) [.slice 109,.int .u32] <| fun p23 l24 l25 n26 =>
 T.loads (a3.add 7) [.slice 109,.int .u32] <| fun p27 l28 l29 n30 =>
 T.call Tryz.prog 80 [.agg #[.slice p23 l24 l25,.int .u32 n26],.agg #[.slice p27 l28 l29,.int .u32 n30]] false [(false,[.bool])] <| fun b31 =>
 cond (!b31)
 (T.ret (vI 31))
 (T.ret (vI 0)))))))
 (cond (n4==(4:Int))
 (T.loads (a1.add 1) [.string] <| fun s5 =>
 T.loads (a3.add 1) [.string] <| fun s6 =>
 cond (!((ByteArray.toList s5)==(ByteArray.toList s6)))
 (T.ret (vI 31))
 (T.loads (a1.add 2) [.int .i64,.int .i64,.int .i64,.int .i32,.int .i64] <| fun n7 n8 n9 n10 n11 =>
 T.loads (a3.add 2) [.int .i64,.int .i64,.int .i64,.int .i32,.int .i64] <| fun n12 n13 n14 n15 n16 =>
 T.sem Tryz.prog (Sx.cmpS (BinOp.neq) 90 (Operand.tmp 109) (Operand.tmp 111) (.agg #[vI n7,vI n8,vI n9,.int .i32 n10,vI n11]) (.agg #[vI n12,vI n13,vI n14,.int .i32 n15,vI n16])) false [(false,[.bool])] <| fun b17 =>
 cond b17
 (T.ret (vI 31))
 (T.loads (a1.add 9) [.int .i64] <| fun n18 =>
 T.loads (a3.add 9) [.int .i64] <| fun n19 =>
 cond (n18 != n19)
 (T.ret (vI 31))
 (T.loads (a1.add 7) [.slice 109,.int .u32] <| fun p20 l21 l22 n23 =>
 T.loads (a3.add 7) [.slice 109,.int .u32] <| fun p24 l25 l26 n27 =>
 T.call Tryz.prog 80 [.agg #[.slice p20 l21 l22,.int .u32 n23],.agg #[.slice p24 l25 l26,.int .u32 n27]] false [(false,[.bool])] <| fun b28 =>
 cond (!b28)
 (T.ret (vI 31))
 (T.ret (vI 0))))))
 (cond (n4==(5:Int))
 (T.loads (a1.add 9) [.int .i64] <| fun n5 =>
 T.stores (a3.add 9) [vI n5] <|
 T.ret (vI 31))
 (cond (n4==(6:Int))
 (T.loads (a1.add 7) [.slice 109,.int .u32] <| fun p5 l6 l7 n8 =>
 T.stores (a3.add 7) [.slice p5 l6 l7,.int .u32 n8] <|
 T.ret (vI 31))
 (cond (n4==(7:Int))
 (T.loads (a1.add 9) [.int .i64] <| fun n5 =>
 T.stores (a3.add 9) [vI n5] <|
 T.ret (vI 31))
 (T.ret (vI 31))))))))
theorem t_item_Right_c0_eq (k:Int) (s:ByteArray) (o:Int) (a:Int) (b:Int) (n:Int) (f:Int) (p:Option Addr) (l:Nat) (c:Nat) (m:Int) (q:Int):xfun Tryz.prog [] Tryz.f44 [.agg #[vI k,.string s,vI o,vI a,vI b,.int .i32 n,vI f,.slice p l c,.int .u32 m,vI q],vI 0]=t_item_Right_c0 k s o a b n f p l c m q:=by kernel_rfl
def t_item_Right_c1 (k:Int) (s:ByteArray) (o:Int) (a:Int) (b:Int) (n:Int) (f:Int) (p:Option Addr) (l:Nat) (c:Nat) (m:Int) (q:Int):T :=
 T.new [vI k,.string s,vI o,vI a,vI b,.int .i32 n,vI f,.slice p l c,.int .u32 m,vI q] 96 <| fun a1 =>
 T.loads a1 [.int .i64] <| fun n2 =>
 T.new [vI 0,.string ⟨#[]⟩,vI 0,vI 0,vI 0,.int .i32 0,vI 0,.slice none 0 0,.int .u32 0,vI 0] 96 <| fun a3 =>
 T.stores a3 [vI n2,.string ⟨#[]⟩,vI 0,vI 0,vI 0,.int .i32 0,vI 0,.slice none 0 0,.int .u32 0,vI 0] <|
 T.loads a1 [.int .i64] <| fun n4 =>
 cond (n4==(1:Int))
 (T.loads (a1.add 1) [.string] <| fun s5 =>
 T.stores (a3.add 1) [.string s5] <|
 T.loads (a1.add 1) [.string] <| fun s6 =>
 T.call Tryz.prog 45 [.string s6] false [(false,[.bool])] <| fun b7 =>
 cond (!b7)
 (T.ret (vI 31))
 (T.loads (a1.add 1) [.string] <| fun s8 =>
 T.loads (a3.add 1) [.string] <| fun s9 =>
 cond (!((ByteArray.toList s8)==(ByteArray.toList s9)))
 (T.ret (vI 31))
 (T.loads (a1.add 2) [.int .i64,.int .i64,.int .i64,.int .i32,.int .i64] <| fun n10 n11 n12 n13 n14 =>
 T.loads (a3.add 2) [.int .i64,.int .i64,.int .i64,.int .i32,.int .i64] <| fun n15 n16 n17 n18 n19 =>
 T.sem Tryz.prog (Sx.cmpS (BinOp.neq) 90 (Operand.tmp 109) (Operand.tmp 111) (.agg #[vI n10,vI n11,vI n12,.int .i32 n13,vI n14]) (.agg #[vI n15,vI n16,vI n17,.int .i32 n18,vI n19])) false [(false,[.bool])] <| fun b20 =>
 cond b20
 (T.ret (vI 31))
 (T.loads (a1.add 9) [.int .i64] <| fun n21 =>
 T.loads (a3.add 9) [.int .i64] <| fun n22 =>
 cond (n21 != n22)
 (T.ret (vI 31))
 (T.loads (a1.add 7) [.slice 109,.int .u32] <| fun p23 l24 l25 n26 =>
 T.loads (a3.add 7) [.slice 109,.int .u32] <| fun p27 l28 l29 n30 =>
 T.call Tryz.prog 80 [.agg #[.slice p23 l24 l25,.int .u32 n26],.agg #[.slice p27 l28 l29,.int .u32 n30]] false [(false,[.bool])] <| fun b31 =>
 cond (!b31)
 (T.ret (vI 31))
 (T.ret (vI 0)))))))
 (cond (n4==(2:Int))
 (T.loads (a1.add 2) [.int .i64,.int .i64,.int .i64,.int .i32,.int .i64] <| fun n5 n6 n7 n8 n9 =>
 T.loads (a1.add 7) [.slice 109,.int .u32] <| fun p10 l11 l12 n13 =>
 T.stores (a3.add 2) [vI n5,vI n6,vI n7,.int .i32 n8,vI n9] <|
 T.stable [((a1.add 7),[.slice p10 l11 l12,.int .u32 n13])] <|
 T.stores (a3.add 7) [.slice p10 l11 l12,.int .u32 n13] <|
 T.ret (vI 31))
 (cond (n4==(3:Int))
 (T.loads (a1.add 9) [.int .i64] <| fun n5 =>
 T.stores (a3.add 9) [vI n5] <|
 T.loads (a1.add 9) [.int .i64] <| fun n6 =>
 T.call Tryz.prog 79 [vI n6] false [(false,[.bool])] <| fun b7 =>
 cond (!b7)
 (T.ret (vI 31))
 (T.loads (a1.add 1) [.string] <| fun s8 =>
 T.loads (a3.add 1) [.string] <| fun s9 =>
 cond (!((ByteArray.toList s8)==(ByteArray.toList s9)))
 (T.ret (vI 31))
 (T.loads (a1.add 2) [.int .i64,.int .i64,.int .i64,.int .i32,.int .i64] <| fun n10 n11 n12 n13 n14 =>
 T.loads (a3.add 2) [.int .i64,.int .i64,.int .i64,.int .i32,.int .i64] <| fun n15 n16 n17 n18 n19 =>
 T.sem Tryz.prog (Sx.cmpS (BinOp.neq) 90 (Operand.tmp 109) (Operand.tmp 111) (.agg #[vI n10,vI n11,vI n12,.int .i32 n13,vI n14]) (.agg #[vI n15,vI n16,vI n17,.int .i32 n18,vI n19])) false [(false,[.bool])] <| fun b20 =>
 cond b20
 (T.ret (vI 31))
 (T.loads (a1.add 9) [.int .i64] <| fun n21 =>
 T.loads (a3.add 9) [.int .i64] <| fun n22 =>
 cond (n21 != n22)
 (T.ret (vI 31))
 (T.loads (a1.add 7) [.slice 109,.int .u32] <| fun p23 l24 l25 n26 =>
 T.loads (a3.add 7) [.slice 109,.int .u32] <| fun p27 l28 l29 n30 =>
 T.call Tryz.prog 80 [.agg #[.slice p23 l24 l25,.int .u32 n26],.agg #[.slice p27 l28 l29,.int .u32 n30]] false [(false,[.bool])] <| fun b31 =>
 cond (!b31)
 (T.ret (vI 31))
 (T.ret (vI 0)))))))
 (cond (n4==(4:Int))
 (T.ret (vI 31))
 (cond (n4==(5:Int))
 (T.loads (a1.add 9) [.int .i64] <| fun n5 =>
 T.stores (a3.add 9) [vI n5] <|
 T.loads (a1.add 9) [.int .i64] <| fun n6 =>
 cond (decide (n6≥(-128:Int)))
 (T.loads (a1.add 9) [.int .i64] <| fun n7 =>
 cond (!(decide (n7≤(255:Int))))
 (T.ret (vI 31))
 (T.loads (a1.add 1) [.string] <| fun s8 =>
 T.loads (a3.add 1) [.string] <| fun s9 =>
 cond (!((ByteArray.toList s8)==(ByteArray.toList s9)))
 (T.ret (vI 31))
 (T.loads (a1.add 2) [.int .i64,.int .i64,.int .i64,.int .i32,.int .i64] <| fun n10 n11 n12 n13 n14 =>
 T.loads (a3.add 2) [.int .i64,.int .i64,.int .i64,.int .i32,.int .i64] <| fun n15 n16 n17 n18 n19 =>
 T.sem Tryz.prog (Sx.cmpS (BinOp.neq) 90 (Operand.tmp 109) (Operand.tmp 111) (.agg #[vI n10,vI n11,vI n12,.int .i32 n13,vI n14]) (.agg #[vI n15,vI n16,vI n17,.int .i32 n18,vI n19])) false [(false,[.bool])] <| fun b20 =>
 cond b20
 (T.ret (vI 31))
 (T.loads (a1.add 9) [.int .i64] <| fun n21 =>
 T.loads (a3.add 9) [.int .i64] <| fun n22 =>
 cond (n21 != n22)
 (T.ret (vI 31))
 (T.loads (a1.add 7) [.slice 109,.int .u32] <| fun p23 l24 l25 n26 =>
 T.loads (a3.add 7) [.slice 109,.int .u32] <| fun p27 l28 l29 n30 =>
 T.call Tryz.prog 80 [.agg #[.slice p23 l24 l25,.int .u32 n26],.agg #[.slice p27 l28 l29,.int .u32 n30]] false [(false,[.bool])] <| fun b31 =>
 cond (!b31)
 (T.ret (vI 31))
 (T.ret (vI 0)))))))
 (T.ret (vI 31)))
 (cond (n4==(6:Int))
 (T.loads (a1.add 7) [.slice 109,.int .u32] <| fun p5 l6 l7 n8 =>
 T.stores (a3.add 7) [.slice p5 l6 l7,.int .u32 n8] <|
 T.loads (a1.add 7) [.slice 109,.int .u32] <| fun p9 l10 l11 n12 =>
 T.call Tryz.prog 46 [.agg #[.slice p9 l10 l11,.int .u32 n12]] false [(false,[.bool])] <| fun b13 =>
 cond (!b13)
 (T.ret (vI 31))
 (T.loads (a1.add 1) [.string] <| fun s14 =>
 T.loads (a3.add 1) [.string] <| fun s15 =>
 cond (!((ByteArray.toList s14)==(ByteArray.toList s15)))
 (T.ret (vI 31))
 (T.loads (a1.add 2) [.int .i64,.int .i64,.int .i64,.int .i32,.int .i64] <| fun n16 n17 n18 n19 n20 =>
 T.loads (a3.add 2) [.int .i64,.int .i64,.int .i64,.int .i32,.int .i64] <| fun n21 n22 n23 n24 n25 =>
 T.sem Tryz.prog (Sx.cmpS (BinOp.neq) 90 (Operand.tmp 109) (Operand.tmp 111) (.agg #[vI n16,vI n17,vI n18,.int .i32 n19,vI n20]) (.agg #[vI n21,vI n22,vI n23,.int .i32 n24,vI n25])) false [(false,[.bool])] <| fun b26 =>
 cond b26
 (T.ret (vI 31))
 (T.loads (a1.add 9) [.int .i64] <| fun n27 =>
 T.loads (a3.add 9) [.int .i64] <| fun n28 =>
 cond (n27 != n28)
 (T.ret (vI 31))
 (T.loads (a1.add 7) [.slice 109,.int .u32] <| fun p29 l30 l31 n32 =>
 T.loads (a3.add 7) [.slice 109,.int .u32] <| fun p33 l34 l35 n36 =>
 T.call Tryz.prog 80 [.agg #[.slice p29 l30 l31,.int .u32 n32],.agg #[.slice p33 l34 l35,.int .u32 n36]] false [(false,[.bool])] <| fun b37 =>
 cond (!b37)
 (T.ret (vI 31))
 (T.ret (vI 0)))))))
 (cond (n4==(7:Int))
 (T.loads (a1.add 9) [.int .i64] <| fun n5 =>
 T.stores (a3.add 9) [vI n5] <|
 T.loads (a1.add 9) [.int .i64] <| fun n6 =>
 cond (decide (n6≥(0:Int)))
 (T.loads (a1.add 9) [.int .i64] <| fun n7 =>
 cond (!(decide (n7≤(1048576:Int))))
 (T.ret (vI 31))
 (T.loads (a1.add 1) [.string] <| fun s8 =>
 T.loads (a3.add 1) [.string] <| fun s9 =>
 cond (!((ByteArray.toList s8)==(ByteArray.toList s9)))
 (T.ret (vI 31))
 (T.loads (a1.add 2) [.int .i64,.int .i64,.int .i64,.int .i32,.int .i64] <| fun n10 n11 n12 n13 n14 =>
 T.loads (a3.add 2) [.int .i64,.int .i64,.int .i64,.int .i32,.int .i64] <| fun n15 n16 n17 n18 n19 =>
 T.sem Tryz.prog (Sx.cmpS (BinOp.neq) 90 (Operand.tmp 109) (Operand.tmp 111) (.agg #[vI n10,vI n11,vI n12,.int .i32 n13,vI n14]) (.agg #[vI n15,vI n16,vI n17,.int .i32 n18,vI n19])) false [(false,[.bool])] <| fun b20 =>
 cond b20
 (T.ret (vI 31))
 (T.loads (a1.add 9) [.int .i64] <| fun n21 =>
 T.loads (a3.add 9) [.int .i64] <| fun n22 =>
 cond (n21 != n22)
 (T.ret (vI 31))
 (T.loads (a1.add 7) [.slice 109,.int .u32] <| fun p23 l24 l25 n26 =>
 T.loads (a3.add 7) [.slice 109,.int .u32] <| fun p27 l28 l29 n30 =>
 T.call Tryz.prog 80 [.agg #[.slice p23 l24 l25,.int .u32 n26],.agg #[.slice p27 l28 l29,.int .u32 n30]] false [(false,[.bool])] <| fun b31 =>
 cond (!b31)
 (T.ret (vI 31))
 (T.ret (vI 0)))))))
 (T.ret (vI 31)))
 (T.ret (vI 31))))))))
theorem t_item_Right_c1_eq (k:Int) (s:ByteArray) (o:Int) (a:Int) (b:Int) (n:Int) (f:Int) (p:Option Addr) (l:Nat) (c:Nat) (m:Int) (q:Int):xfun Tryz.prog [] Tryz.f44 [.agg #[vI k,.string s,vI o,vI a,vI b,.int .i32 n,vI f,.slice p l c,.int .u32 m,vI q],vI 1]=t_item_Right_c1 k s o a b n f p l c m q:=by kernel_rfl
end Go.Sx
