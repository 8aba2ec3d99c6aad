/- The abstract code of the functions. -/
import Derived.Test.YtijnjfcblkbdbaaDoorA2
set_option maxRecDepth 100000
namespace Go.Abs.W
open Go Go.Abs
def n_laws_FnExactSealedText : Nat := 3
def n_spec_SealedText : Nat := 5
def n_laws_toSealed : Nat := 6
def n_impl_SealedText : Nat := 7
def n_spec_eGood : Nat := 11
def n_spec_eText : Nat := 12
def n_impl_IsSealed : Nat := 13
def n_impl_sealedText : Nat := 14
def n_spec_l1In : Nat := 20
def n_spec_dSeed : Nat := 21
def n_spec_l1Num : Nat := 22
def n_impl_isTurn : Nat := 23
def n_impl_isSide : Nat := 24
def n_impl_isSeed : Nat := 25
def n_impl_wordsText : Nat := 26
def n_impl_inRange : Nat := 30
def n_strconv_Itoa : Nat := 31
def n_strings_Join : Nat := 32
/-- laws.FnExactSealedText -/
def a_laws_FnExactSealedText : AFn := ⟨1, 27, [.tmp 2], (.seq (.reg [⟨some 1, none, .box (.t 0)⟩, ⟨some 2, none, .asg (.c (.bool false))⟩])
 (.seq (.reg [⟨some 8, none, .load true 3 (.t 1)⟩, ⟨some 9, none, .call n_laws_toSealed [.a 8 1]⟩, ⟨some 10, none, .call n_spec_SealedText [.t 9]⟩, ⟨some 7, none, .mv (.t 10)⟩, ⟨some 11, none, .extract (.p 7) 0⟩, ⟨some 12, none, .extract (.p 7) 1⟩, ⟨some 3, none, .asg (.p 11)⟩, ⟨some 4, none, .asg (.p 12)⟩])
 (.seq (.reg [⟨some 14, none, .load true 3 (.t 1)⟩, ⟨some 15, none, .call n_laws_toSealed [.a 14 1]⟩, ⟨some 16, none, .call n_impl_SealedText [.t 15]⟩, ⟨some 13, none, .mv (.t 16)⟩, ⟨some 17, none, .extract (.p 13) 0⟩, ⟨some 18, none, .extract (.p 13) 1⟩, ⟨some 5, none, .asg (.p 17)⟩, ⟨some 6, none, .asg (.p 18)⟩])
 (.seq (.seq (.reg [⟨some 19, none, .mv (.p 5)⟩, ⟨some 20, none, .mv (.p 3)⟩, ⟨some 21, none, .bin .neq (.t 19) (.t 20)⟩, ⟨some 22, none, .mv (.p 21)⟩, ⟨some 23, some (22, false), .mv (.p 6)⟩, ⟨some 24, some (22, false), .mv (.p 4)⟩, ⟨some 25, some (22, false), .beq true (.t 23) (.t 24)⟩, ⟨some 26, none, .pick (.t 22) (.c (.bool true)) (.t 25)⟩])
 (.cond (.t 26) (.seq (.reg [⟨some 2, none, .asg (.c (.bool false))⟩])
 .ret) .skip))
 (.seq (.reg [⟨some 2, none, .asg (.c (.bool true))⟩])
 .ret)))))⟩
/-- spec.SealedText -/
def a_spec_SealedText : AFn := ⟨1, 9, [.tmp 2, .tmp 3], (.seq (.reg [⟨some 1, none, .box (.t 0)⟩, ⟨some 2, none, .asg (.c (.str ⟨#[]⟩))⟩, ⟨some 3, none, .asg (.c (.bool false))⟩])
 (.seq (.seq (.reg [⟨some 4, none, .load true 3 (.t 1)⟩, ⟨some 5, none, .call n_spec_eGood [.a 4 1]⟩, ⟨some 6, none, .un .not (.t 5)⟩])
 (.cond (.t 6) (.seq (.reg [⟨some 2, none, .asg (.c (.str ⟨#[]⟩))⟩, ⟨some 3, none, .asg (.c (.bool false))⟩])
 .ret) .skip))
 (.seq (.reg [⟨some 7, none, .load true 3 (.t 1)⟩, ⟨some 8, none, .call n_spec_eText [.a 7 1]⟩, ⟨some 2, none, .asg (.p 8)⟩, ⟨some 3, none, .asg (.c (.bool true))⟩])
 .ret)))⟩
/-- laws.toSealed -/
def a_laws_toSealed : AFn := ⟨1, 14, [.cell 2 3 true], (.seq (.reg [⟨some 1, none, .box (.t 0)⟩, ⟨some 2, none, .alloc [.int .i64 0, .int .i64 0, .int .i64 0]⟩])
 (.seq (.reg [⟨some 3, none, .alloc [.int .i64 0, .int .i64 0, .int .i64 0]⟩])
 (.seq (.reg [⟨some 4, none, .faddr 0 (.t 1)⟩, ⟨some 5, none, .load false 1 (.a 4 1)⟩, ⟨some 6, none, .faddr 0 (.t 3)⟩, ⟨none, none, .store 1 (.a 6 3) (.p 5)⟩])
 (.seq (.reg [⟨some 7, none, .faddr 1 (.t 1)⟩, ⟨some 8, none, .load false 1 (.a 7 1)⟩, ⟨some 9, none, .faddr 1 (.t 3)⟩, ⟨none, none, .store 1 (.a 9 3) (.p 8)⟩])
 (.seq (.reg [⟨some 10, none, .faddr 2 (.t 1)⟩, ⟨some 11, none, .load false 1 (.a 10 1)⟩, ⟨some 12, none, .faddr 2 (.t 3)⟩, ⟨none, none, .store 1 (.a 12 3) (.p 11)⟩])
 (.seq (.reg [⟨some 13, none, .load true 3 (.t 3)⟩, ⟨none, none, .store 3 (.t 2) (.a 13 3)⟩])
 .ret))))))⟩
/-- impl.SealedText -/
def a_impl_SealedText : AFn := ⟨1, 9, [.tmp 2, .tmp 3], (.seq (.reg [⟨some 1, none, .box (.t 0)⟩, ⟨some 2, none, .asg (.c (.str ⟨#[]⟩))⟩, ⟨some 3, none, .asg (.c (.bool false))⟩])
 (.seq (.seq (.reg [⟨some 4, none, .load true 3 (.t 1)⟩, ⟨some 5, none, .call n_impl_IsSealed [.a 4 1]⟩, ⟨some 6, none, .un .not (.t 5)⟩])
 (.cond (.t 6) (.seq (.reg [⟨some 2, none, .asg (.c (.str ⟨#[]⟩))⟩, ⟨some 3, none, .asg (.c (.bool false))⟩])
 .ret) .skip))
 (.seq (.reg [⟨some 7, none, .load true 3 (.t 1)⟩, ⟨some 8, none, .call n_impl_sealedText [.a 7 1]⟩, ⟨some 2, none, .asg (.p 8)⟩, ⟨some 3, none, .asg (.c (.bool true))⟩])
 .ret)))⟩
/-- spec.eGood -/
def a_spec_eGood : AFn := ⟨1, 16, [.tmp 2], (.seq (.reg [⟨some 1, none, .box (.t 0)⟩, ⟨some 2, none, .asg (.c (.bool false))⟩])
 (.seq (.reg [⟨some 3, none, .faddr 0 (.t 1)⟩, ⟨some 4, none, .load false 1 (.a 3 1)⟩, ⟨some 5, none, .call n_spec_l1In [.a 4 1, .c (.int .i64 0), .c (.int .i64 30)]⟩, ⟨some 6, none, .mv (.p 5)⟩, ⟨some 7, some (6, true), .faddr 1 (.t 1)⟩, ⟨some 8, some (6, true), .load false 1 (.a 7 1)⟩, ⟨some 9, some (6, true), .call n_spec_l1In [.a 8 1, .c (.int .i64 0), .c (.int .i64 1)]⟩, ⟨some 10, none, .pick (.t 6) (.t 9) (.c (.bool false))⟩, ⟨some 11, none, .mv (.p 10)⟩, ⟨some 12, some (11, true), .faddr 2 (.t 1)⟩, ⟨some 13, some (11, true), .load false 1 (.a 12 1)⟩, ⟨some 14, some (11, true), .call n_spec_dSeed [.a 13 1]⟩, ⟨some 15, none, .pick (.t 11) (.t 14) (.c (.bool false))⟩, ⟨some 2, none, .asg (.p 15)⟩])
 .ret))⟩
/-- spec.eText -/
def a_spec_eText : AFn := ⟨1, 17, [.tmp 2], (.seq (.reg [⟨some 1, none, .box (.t 0)⟩, ⟨some 2, none, .asg (.c (.str ⟨#[]⟩))⟩])
 (.seq (.reg [⟨some 3, none, .faddr 0 (.t 1)⟩, ⟨some 4, none, .load false 1 (.a 3 1)⟩, ⟨some 5, none, .call n_spec_l1Num [.a 4 1]⟩, ⟨some 6, none, .bin .add (.c (.str ⟨#[115, 101, 97, 108, 32]⟩)) (.t 5)⟩, ⟨some 7, none, .bin .add (.t 6) (.c (.str ⟨#[32]⟩))⟩, ⟨some 8, none, .faddr 1 (.t 1)⟩, ⟨some 9, none, .load false 1 (.a 8 1)⟩, ⟨some 10, none, .call n_spec_l1Num [.a 9 1]⟩, ⟨some 11, none, .bin .add (.t 7) (.t 10)⟩, ⟨some 12, none, .bin .add (.t 11) (.c (.str ⟨#[32]⟩))⟩, ⟨some 13, none, .faddr 2 (.t 1)⟩, ⟨some 14, none, .load false 1 (.a 13 1)⟩, ⟨some 15, none, .call n_spec_l1Num [.a 14 1]⟩, ⟨some 16, none, .bin .add (.t 12) (.t 15)⟩, ⟨some 2, none, .asg (.p 16)⟩])
 .ret))⟩
/-- impl.IsSealed -/
def a_impl_IsSealed : AFn := ⟨1, 16, [.tmp 2], (.seq (.reg [⟨some 1, none, .box (.t 0)⟩, ⟨some 2, none, .asg (.c (.bool false))⟩])
 (.seq (.reg [⟨some 3, none, .faddr 0 (.t 1)⟩, ⟨some 4, none, .load false 1 (.a 3 1)⟩, ⟨some 5, none, .call n_impl_isTurn [.a 4 1]⟩, ⟨some 6, none, .mv (.p 5)⟩, ⟨some 7, some (6, true), .faddr 1 (.t 1)⟩, ⟨some 8, some (6, true), .load false 1 (.a 7 1)⟩, ⟨some 9, some (6, true), .call n_impl_isSide [.a 8 1]⟩, ⟨some 10, none, .pick (.t 6) (.t 9) (.c (.bool false))⟩, ⟨some 11, none, .mv (.p 10)⟩, ⟨some 12, some (11, true), .faddr 2 (.t 1)⟩, ⟨some 13, some (11, true), .load false 1 (.a 12 1)⟩, ⟨some 14, some (11, true), .call n_impl_isSeed [.a 13 1]⟩, ⟨some 15, none, .pick (.t 11) (.t 14) (.c (.bool false))⟩, ⟨some 2, none, .asg (.p 15)⟩])
 .ret))⟩
/-- impl.sealedText -/
def a_impl_sealedText : AFn := ⟨1, 11, [.tmp 2], (.seq (.reg [⟨some 1, none, .box (.t 0)⟩, ⟨some 2, none, .asg (.c (.str ⟨#[]⟩))⟩])
 (.seq (.reg [⟨some 3, none, .faddr 0 (.t 1)⟩, ⟨some 4, none, .load false 1 (.a 3 1)⟩, ⟨some 5, none, .faddr 1 (.t 1)⟩, ⟨some 6, none, .load false 1 (.a 5 1)⟩, ⟨some 7, none, .faddr 2 (.t 1)⟩, ⟨some 8, none, .load false 1 (.a 7 1)⟩, ⟨some 9, none, .bslice 1 3 [.int .i64 0] [(0, .p 4), (1, .p 6), (2, .p 8)]⟩, ⟨some 10, none, .call n_impl_wordsText [.c (.str ⟨#[115, 101, 97, 108]⟩), .t 9]⟩, ⟨some 2, none, .asg (.p 10)⟩])
 .ret))⟩
/-- spec.l1In -/
def a_spec_l1In : AFn := ⟨3, 15, [.tmp 6], (.seq (.reg [⟨some 6, none, .asg (.c (.bool false))⟩])
 (.seq (.reg [⟨some 7, none, .mv (.p 0)⟩, ⟨some 8, none, .mv (.p 1)⟩, ⟨some 9, none, .bin .geq (.t 7) (.t 8)⟩, ⟨some 10, none, .mv (.p 9)⟩, ⟨some 11, some (10, true), .mv (.p 0)⟩, ⟨some 12, some (10, true), .mv (.p 2)⟩, ⟨some 13, some (10, true), .bin .leq (.t 11) (.t 12)⟩, ⟨some 14, none, .pick (.t 10) (.t 13) (.c (.bool false))⟩, ⟨some 6, none, .asg (.p 14)⟩])
 .ret))⟩
/-- spec.dSeed -/
def a_spec_dSeed : AFn := ⟨1, 5, [.tmp 2], (.seq (.reg [⟨some 2, none, .asg (.c (.bool false))⟩])
 (.seq (.reg [⟨some 3, none, .mv (.p 0)⟩, ⟨some 4, none, .call n_spec_l1In [.t 3, .c (.int .i64 0), .c (.int .i64 4611686016279904236)]⟩, ⟨some 2, none, .asg (.p 4)⟩])
 .ret))⟩
/-- spec.l1Num -/
def a_spec_l1Num : AFn := ⟨1, 20, [.tmp 2], (.seq (.reg [⟨some 2, none, .asg (.c (.str ⟨#[]⟩))⟩])
 (.seq (.seq (.reg [⟨some 3, none, .mv (.p 0)⟩, ⟨some 4, none, .bin .lss (.t 3) (.c (.int .i64 10))⟩])
 (.cond (.t 4) (.seq (.reg [⟨some 5, none, .mv (.p 0)⟩, ⟨some 6, none, .bin .add (.c (.int .i64 48)) (.t 5)⟩, ⟨some 7, none, .conv .u8 (.t 6)⟩, ⟨some 8, none, .bslice 1 1 [.int .u8 0] [(0, .p 7)]⟩, ⟨some 9, none, .bstr 8⟩, ⟨some 2, none, .asg (.p 9)⟩])
 .ret) .skip))
 (.seq (.reg [⟨some 10, none, .mv (.p 0)⟩, ⟨some 11, none, .bin .quo (.t 10) (.c (.int .i64 10))⟩, ⟨some 12, none, .call n_spec_l1Num [.t 11]⟩, ⟨some 13, none, .mv (.p 0)⟩, ⟨some 14, none, .bin .rem (.t 13) (.c (.int .i64 10))⟩, ⟨some 15, none, .bin .add (.c (.int .i64 48)) (.t 14)⟩, ⟨some 16, none, .conv .u8 (.t 15)⟩, ⟨some 17, none, .bslice 1 1 [.int .u8 0] [(0, .p 16)]⟩, ⟨some 18, none, .bstr 17⟩, ⟨some 19, none, .bin .add (.t 12) (.t 18)⟩, ⟨some 2, none, .asg (.p 19)⟩])
 .ret)))⟩
/-- impl.isTurn -/
def a_impl_isTurn : AFn := ⟨1, 5, [.tmp 2], (.seq (.reg [⟨some 2, none, .asg (.c (.bool false))⟩])
 (.seq (.reg [⟨some 3, none, .mv (.p 0)⟩, ⟨some 4, none, .call n_impl_inRange [.t 3, .c (.int .i64 0), .c (.int .i64 30)]⟩, ⟨some 2, none, .asg (.p 4)⟩])
 .ret))⟩
/-- impl.isSide -/
def a_impl_isSide : AFn := ⟨1, 5, [.tmp 2], (.seq (.reg [⟨some 2, none, .asg (.c (.bool false))⟩])
 (.seq (.reg [⟨some 3, none, .mv (.p 0)⟩, ⟨some 4, none, .call n_impl_inRange [.t 3, .c (.int .i64 0), .c (.int .i64 1)]⟩, ⟨some 2, none, .asg (.p 4)⟩])
 .ret))⟩
/-- impl.isSeed -/
def a_impl_isSeed : AFn := ⟨1, 5, [.tmp 2], (.seq (.reg [⟨some 2, none, .asg (.c (.bool false))⟩])
 (.seq (.reg [⟨some 3, none, .mv (.p 0)⟩, ⟨some 4, none, .call n_impl_inRange [.t 3, .c (.int .i64 0), .c (.int .i64 4611686016279904236)]⟩, ⟨some 2, none, .asg (.p 4)⟩])
 .ret))⟩
def b_impl_wordsText_0 : AC := (.seq (.reg [⟨some 13, none, .bin .lss (.t 12) (.t 11)⟩])
 (.seq (.cond (.t 13) .skip (.exit 0))
 (.seq (.block 1 (.seq (.reg [⟨some 14, none, .iaddr 1 (.a 10 1) (.t 12)⟩, ⟨some 15, none, .load false 1 (.a 14 1)⟩, ⟨some 7, none, .asg (.p 15)⟩])
 (.reg [⟨some 16, none, .rf (.t 5)⟩, ⟨some 17, none, .mv (.p 7)⟩, ⟨some 18, none, .call n_strconv_Itoa [.t 17]⟩, ⟨some 19, none, .bslice 1 1 [.str ⟨#[]⟩] [(0, .p 18)]⟩, ⟨some 20, none, .append 1 (.a 16 5) (.t 19)⟩, ⟨some 5, none, .asg (.t 20)⟩])))
 (.reg [⟨some 21, none, .bin .add (.t 12) (.c (.int .i64 1))⟩, ⟨some 12, none, .mv (.p 21)⟩]))))
/-- impl.wordsText -/
def a_impl_wordsText : AFn := ⟨2, 24, [.tmp 4], (.seq (.reg [⟨some 4, none, .asg (.c (.str ⟨#[]⟩))⟩])
 (.seq (.reg [⟨some 8, none, .mv (.p 0)⟩, ⟨some 9, none, .bslice 1 1 [.str ⟨#[]⟩] [(0, .p 8)]⟩, ⟨some 5, none, .asg (.t 9)⟩])
 (.seq (.seq (.reg [⟨some 10, none, .rf (.t 1)⟩, ⟨some 11, none, .len (.a 10 1)⟩, ⟨some 12, none, .mv (.c (.int .i64 0))⟩])
 (.block 0 (.loop [1, 5, 10, 11, 12] [4, 5] b_impl_wordsText_0)))
 (.seq (.reg [⟨some 22, none, .rf (.t 5)⟩, ⟨some 23, none, .call n_strings_Join [.a 22 5, .c (.str ⟨#[32]⟩)]⟩, ⟨some 4, none, .asg (.p 23)⟩])
 .ret))))⟩
/-- impl.inRange -/
def a_impl_inRange : AFn := ⟨3, 15, [.tmp 6], (.seq (.reg [⟨some 6, none, .asg (.c (.bool false))⟩])
 (.seq (.reg [⟨some 7, none, .mv (.p 1)⟩, ⟨some 8, none, .mv (.p 0)⟩, ⟨some 9, none, .bin .leq (.t 7) (.t 8)⟩, ⟨some 10, none, .mv (.p 9)⟩, ⟨some 11, some (10, true), .mv (.p 0)⟩, ⟨some 12, some (10, true), .mv (.p 2)⟩, ⟨some 13, some (10, true), .bin .leq (.t 11) (.t 12)⟩, ⟨some 14, none, .pick (.t 10) (.t 13) (.c (.bool false))⟩, ⟨some 6, none, .asg (.p 14)⟩])
 .ret))⟩
end Go.Abs.W
