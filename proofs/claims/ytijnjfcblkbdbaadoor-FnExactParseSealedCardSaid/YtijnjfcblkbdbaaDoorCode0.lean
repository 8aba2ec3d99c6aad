/- The abstract code of the functions. -/
import Derived.Test.YtijnjfcblkbdbaaDoorA2
set_option maxRecDepth 100000
namespace Go.Abs.W
open Go Go.Abs
def n_laws_FnExactParseSealed : Nat := 4
def n_spec_ParseSealed : Nat := 8
def n_impl_ParseSealed : Nat := 9
def n_laws_eqSealed : Nat := 10
def n_spec_eGood : Nat := 11
def n_spec_eText : Nat := 12
def n_impl_IsSealed : Nat := 13
def n_impl_sealedText : Nat := 14
def n_spec_l1Split : Nat := 15
def n_spec_l1Read : Nat := 16
def n_spec_eDigits : Nat := 17
def n_strings_Split : Nat := 18
def n_strconv_Atoi : Nat := 19
def n_spec_l1In : Nat := 20
def n_spec_dSeed : Nat := 21
def n_spec_l1Num : Nat := 22
def n_impl_isTurn : Nat := 23
def n_impl_isSide : Nat := 24
def n_impl_isSeed : Nat := 25
def n_impl_wordsText : Nat := 26
def n_impl_inRange : Nat := 30
def n_strconv_Itoa : Nat := 31
def n_strings_Join : Nat := 32
/-- laws.FnExactParseSealed -/
def a_laws_FnExactParseSealed : AFn := ⟨1, 29, [.tmp 2], (.seq (.reg [⟨some 2, none, .asg (.c (.bool false))⟩])
 (.seq (.seq (.reg [⟨some 7, none, .mv (.p 0)⟩, ⟨some 8, none, .slen (.t 7)⟩, ⟨some 9, none, .bin .gtr (.t 8) (.c (.int .i64 1048576))⟩])
 (.cond (.t 9) (.seq (.reg [⟨some 2, none, .asg (.c (.bool true))⟩])
 .ret) .skip))
 (.seq (.reg [⟨some 11, none, .mv (.p 0)⟩, ⟨some 12, none, .call n_spec_ParseSealed [.t 11]⟩, ⟨some 10, none, .mv (.t 12)⟩, ⟨some 13, none, .extract (.t 10) 0⟩, ⟨some 14, none, .extract (.p 10) 1⟩, ⟨some 3, none, .alloc [.int .i64 0, .int .i64 0, .int .i64 0]⟩, ⟨none, none, .store 3 (.t 3) (.t 13)⟩, ⟨some 4, none, .asg (.p 14)⟩])
 (.seq (.reg [⟨some 16, none, .mv (.p 0)⟩, ⟨some 17, none, .call n_impl_ParseSealed [.t 16]⟩, ⟨some 15, none, .mv (.t 17)⟩, ⟨some 18, none, .extract (.t 15) 0⟩, ⟨some 19, none, .extract (.p 15) 1⟩, ⟨some 5, none, .alloc [.int .i64 0, .int .i64 0, .int .i64 0]⟩, ⟨none, none, .store 3 (.t 5) (.t 18)⟩, ⟨some 6, none, .asg (.p 19)⟩])
 (.seq (.seq (.reg [⟨some 20, none, .load true 3 (.t 5)⟩, ⟨some 21, none, .load true 3 (.t 3)⟩, ⟨some 22, none, .call n_laws_eqSealed [.a 20 5, .a 21 3]⟩, ⟨some 23, none, .un .not (.t 22)⟩, ⟨some 24, none, .mv (.p 23)⟩, ⟨some 25, some (24, false), .mv (.p 6)⟩, ⟨some 26, some (24, false), .mv (.p 4)⟩, ⟨some 27, some (24, false), .beq true (.t 25) (.t 26)⟩, ⟨some 28, none, .pick (.t 24) (.c (.bool true)) (.t 27)⟩])
 (.cond (.t 28) (.seq (.reg [⟨some 2, none, .asg (.c (.bool false))⟩])
 .ret) .skip))
 (.seq (.reg [⟨some 2, none, .asg (.c (.bool true))⟩])
 .ret))))))⟩
/-- spec.ParseSealed -/
def a_spec_ParseSealed : AFn := ⟨1, 43, [.cell 2 3 true, .tmp 3], (.seq (.reg [⟨some 2, none, .alloc [.int .i64 0, .int .i64 0, .int .i64 0]⟩, ⟨some 3, none, .asg (.c (.bool false))⟩])
 (.seq (.reg [⟨some 6, none, .mv (.p 0)⟩, ⟨some 7, none, .call n_spec_l1Split [.t 6, .c (.int .u8 32)]⟩, ⟨some 4, none, .asg (.t 7)⟩])
 (.seq (.seq (.reg [⟨some 8, none, .rf (.t 4)⟩, ⟨some 9, none, .len (.a 8 4)⟩, ⟨some 10, none, .bin .neq (.t 9) (.c (.int .i64 4))⟩, ⟨some 11, none, .mv (.p 10)⟩, ⟨some 12, some (11, false), .rf (.t 4)⟩, ⟨some 13, some (11, false), .iaddr 1 (.a 12 4) (.c (.int .i64 3))⟩, ⟨some 14, some (11, false), .load false 1 (.a 13 4)⟩, ⟨some 15, some (11, false), .slen (.a 14 4)⟩, ⟨some 16, some (11, false), .bin .gtr (.t 15) (.c (.int .i64 19))⟩, ⟨some 17, none, .pick (.t 11) (.c (.bool true)) (.t 16)⟩])
 (.cond (.t 17) (.seq (.reg [⟨some 18, none, .build [.int .i64 0, .int .i64 0, .int .i64 0] []⟩, ⟨none, none, .store 3 (.t 2) (.t 18)⟩, ⟨some 3, none, .asg (.c (.bool false))⟩])
 .ret) .skip))
 (.seq (.reg [⟨some 19, none, .rf (.t 4)⟩, ⟨some 20, none, .iaddr 1 (.a 19 4) (.c (.int .i64 1))⟩, ⟨some 21, none, .load false 1 (.a 20 4)⟩, ⟨some 22, none, .call n_spec_l1Read [.a 21 4]⟩, ⟨some 23, none, .rf (.t 4)⟩, ⟨some 24, none, .iaddr 1 (.a 23 4) (.c (.int .i64 2))⟩, ⟨some 25, none, .load false 1 (.a 24 4)⟩, ⟨some 26, none, .call n_spec_l1Read [.a 25 4]⟩, ⟨some 27, none, .rf (.t 4)⟩, ⟨some 28, none, .iaddr 1 (.a 27 4) (.c (.int .i64 3))⟩, ⟨some 29, none, .load false 1 (.a 28 4)⟩, ⟨some 30, none, .call n_spec_eDigits [.a 29 4]⟩, ⟨some 31, none, .build [.int .i64 0, .int .i64 0, .int .i64 0] [(0, 1, .p 22), (1, 1, .p 26), (2, 1, .p 30)]⟩, ⟨some 5, none, .alloc [.int .i64 0, .int .i64 0, .int .i64 0]⟩, ⟨none, none, .store 3 (.t 5) (.t 31)⟩])
 (.seq (.seq (.reg [⟨some 32, none, .load true 3 (.t 5)⟩, ⟨some 33, none, .call n_spec_eGood [.a 32 5]⟩, ⟨some 34, none, .un .not (.t 33)⟩, ⟨some 35, none, .mv (.p 34)⟩, ⟨some 36, some (35, false), .load true 3 (.t 5)⟩, ⟨some 37, some (35, false), .call n_spec_eText [.a 36 5]⟩, ⟨some 38, some (35, false), .mv (.p 0)⟩, ⟨some 39, some (35, false), .bin .neq (.t 37) (.t 38)⟩, ⟨some 40, none, .pick (.t 35) (.c (.bool true)) (.t 39)⟩])
 (.cond (.t 40) (.seq (.reg [⟨some 41, none, .build [.int .i64 0, .int .i64 0, .int .i64 0] []⟩, ⟨none, none, .store 3 (.t 2) (.t 41)⟩, ⟨some 3, none, .asg (.c (.bool false))⟩])
 .ret) .skip))
 (.seq (.reg [⟨some 42, none, .load true 3 (.t 5)⟩, ⟨none, none, .store 3 (.t 2) (.a 42 5)⟩, ⟨some 3, none, .asg (.c (.bool true))⟩])
 .ret))))))⟩
def b_impl_ParseSealed_0 : AC := (.seq (.reg [⟨some 22, none, .bin .lss (.t 21) (.t 20)⟩])
 (.seq (.cond (.t 22) .skip (.exit 0))
 (.seq (.block 1 (.seq (.reg [⟨some 23, none, .iaddr 1 (.t 19) (.t 21)⟩, ⟨some 24, none, .load false 1 (.a 23 19)⟩, ⟨some 7, none, .asg (.p 24)⟩])
 (.seq (.reg [⟨some 26, none, .mv (.p 7)⟩, ⟨some 27, none, .call n_strconv_Atoi [.t 26]⟩, ⟨some 25, none, .mv (.t 27)⟩, ⟨some 28, none, .extract (.p 25) 0⟩, ⟨some 29, none, .extract (.p 25) 1⟩, ⟨some 8, none, .asg (.p 28)⟩, ⟨some 9, none, .asg (.p 29)⟩])
 (.seq (.seq (.reg [⟨some 30, none, .mv (.p 9)⟩, ⟨some 31, none, .errq true (.t 30)⟩])
 (.cond (.t 31) (.seq (.reg [⟨some 32, none, .build [.int .i64 0, .int .i64 0, .int .i64 0] []⟩, ⟨none, none, .store 3 (.t 2) (.t 32)⟩, ⟨some 3, none, .asg (.c (.bool false))⟩])
 .ret) .skip))
 (.reg [⟨some 33, none, .rf (.t 5)⟩, ⟨some 34, none, .mv (.p 8)⟩, ⟨some 35, none, .bslice 1 1 [.int .i64 0] [(0, .p 34)]⟩, ⟨some 36, none, .append 1 (.a 33 5) (.t 35)⟩, ⟨some 5, none, .asg (.t 36)⟩])))))
 (.reg [⟨some 37, none, .bin .add (.t 21) (.c (.int .i64 1))⟩, ⟨some 21, none, .mv (.p 37)⟩]))))
/-- impl.ParseSealed -/
def a_impl_ParseSealed : AFn := ⟨1, 59, [.cell 2 3 true, .tmp 3], (.seq (.reg [⟨some 2, none, .alloc [.int .i64 0, .int .i64 0, .int .i64 0]⟩, ⟨some 3, none, .asg (.c (.bool false))⟩])
 (.seq (.reg [⟨some 11, none, .mv (.p 0)⟩, ⟨some 12, none, .call n_strings_Split [.t 11, .c (.str ⟨#[32]⟩)]⟩, ⟨some 4, none, .asg (.t 12)⟩])
 (.seq (.seq (.reg [⟨some 13, none, .rf (.t 4)⟩, ⟨some 14, none, .len (.a 13 4)⟩, ⟨some 15, none, .bin .neq (.t 14) (.c (.int .i64 4))⟩])
 (.cond (.t 15) (.seq (.reg [⟨some 16, none, .build [.int .i64 0, .int .i64 0, .int .i64 0] []⟩, ⟨none, none, .store 3 (.t 2) (.t 16)⟩, ⟨some 3, none, .asg (.c (.bool false))⟩])
 .ret) .skip))
 (.seq (.reg [⟨some 17, none, .bslice 1 0 [.int .i64 0] []⟩, ⟨some 5, none, .asg (.t 17)⟩])
 (.seq (.seq (.reg [⟨some 18, none, .frk 4⟩, ⟨some 19, none, .sub 1 (.t 18) (some (.c (.int .i64 1))) none⟩, ⟨some 20, none, .len (.t 19)⟩, ⟨some 21, none, .mv (.c (.int .i64 0))⟩])
 (.block 0 (.loop [0, 2, 5, 19, 20, 21] [0, 2, 3, 5] b_impl_ParseSealed_0)))
 (.seq (.reg [⟨some 38, none, .rf (.t 5)⟩, ⟨some 39, none, .iaddr 1 (.a 38 5) (.c (.int .i64 0))⟩, ⟨some 40, none, .load false 1 (.a 39 5)⟩, ⟨some 41, none, .rf (.t 5)⟩, ⟨some 42, none, .iaddr 1 (.a 41 5) (.c (.int .i64 1))⟩, ⟨some 43, none, .load false 1 (.a 42 5)⟩, ⟨some 44, none, .rf (.t 5)⟩, ⟨some 45, none, .iaddr 1 (.a 44 5) (.c (.int .i64 2))⟩, ⟨some 46, none, .load false 1 (.a 45 5)⟩, ⟨some 47, none, .build [.int .i64 0, .int .i64 0, .int .i64 0] [(0, 1, .p 40), (1, 1, .p 43), (2, 1, .p 46)]⟩, ⟨some 10, none, .alloc [.int .i64 0, .int .i64 0, .int .i64 0]⟩, ⟨none, none, .store 3 (.t 10) (.t 47)⟩])
 (.seq (.seq (.reg [⟨some 48, none, .load true 3 (.t 10)⟩, ⟨some 49, none, .call n_impl_IsSealed [.a 48 10]⟩, ⟨some 50, none, .un .not (.t 49)⟩, ⟨some 51, none, .mv (.p 50)⟩, ⟨some 52, some (51, false), .load true 3 (.t 10)⟩, ⟨some 53, some (51, false), .call n_impl_sealedText [.a 52 10]⟩, ⟨some 54, some (51, false), .mv (.p 0)⟩, ⟨some 55, some (51, false), .bin .neq (.t 53) (.t 54)⟩, ⟨some 56, none, .pick (.t 51) (.c (.bool true)) (.t 55)⟩])
 (.cond (.t 56) (.seq (.reg [⟨some 57, none, .build [.int .i64 0, .int .i64 0, .int .i64 0] []⟩, ⟨none, none, .store 3 (.t 2) (.t 57)⟩, ⟨some 3, none, .asg (.c (.bool false))⟩])
 .ret) .skip))
 (.seq (.reg [⟨some 58, none, .load true 3 (.t 10)⟩, ⟨none, none, .store 3 (.t 2) (.a 58 10)⟩, ⟨some 3, none, .asg (.c (.bool true))⟩])
 .ret))))))))⟩
/-- laws.eqSealed -/
def a_laws_eqSealed : AFn := ⟨2, 20, [.tmp 4], (.seq (.reg [⟨some 2, none, .box (.t 0)⟩, ⟨some 3, none, .box (.t 1)⟩, ⟨some 4, none, .asg (.c (.bool false))⟩])
 (.seq (.seq (.reg [⟨some 5, none, .faddr 0 (.t 2)⟩, ⟨some 6, none, .load false 1 (.a 5 2)⟩, ⟨some 7, none, .faddr 0 (.t 3)⟩, ⟨some 8, none, .load false 1 (.a 7 3)⟩, ⟨some 9, none, .bin .neq (.a 6 2) (.a 8 3)⟩])
 (.cond (.t 9) (.seq (.reg [⟨some 4, none, .asg (.c (.bool false))⟩])
 .ret) .skip))
 (.seq (.seq (.reg [⟨some 10, none, .faddr 1 (.t 2)⟩, ⟨some 11, none, .load false 1 (.a 10 2)⟩, ⟨some 12, none, .faddr 1 (.t 3)⟩, ⟨some 13, none, .load false 1 (.a 12 3)⟩, ⟨some 14, none, .bin .neq (.a 11 2) (.a 13 3)⟩])
 (.cond (.t 14) (.seq (.reg [⟨some 4, none, .asg (.c (.bool false))⟩])
 .ret) .skip))
 (.seq (.seq (.reg [⟨some 15, none, .faddr 2 (.t 2)⟩, ⟨some 16, none, .load false 1 (.a 15 2)⟩, ⟨some 17, none, .faddr 2 (.t 3)⟩, ⟨some 18, none, .load false 1 (.a 17 3)⟩, ⟨some 19, none, .bin .neq (.a 16 2) (.a 18 3)⟩])
 (.cond (.t 19) (.seq (.reg [⟨some 4, none, .asg (.c (.bool false))⟩])
 .ret) .skip))
 (.seq (.reg [⟨some 4, none, .asg (.c (.bool true))⟩])
 .ret)))))⟩
/-- spec.eGood -/
def a_spec_eGood : AFn := ⟨1, 16, [.tmp 2], (.seq (.reg [⟨some 1, none, .box (.t 0)⟩, ⟨some 2, none, .asg (.c (.bool false))⟩])
 (.seq (.reg [⟨some 3, none, .faddr 0 (.t 1)⟩, ⟨some 4, none, .load false 1 (.a 3 1)⟩, ⟨some 5, none, .call n_spec_l1In [.a 4 1, .c (.int .i64 0), .c (.int .i64 30)]⟩, ⟨some 6, none, .mv (.p 5)⟩, ⟨some 7, some (6, true), .faddr 1 (.t 1)⟩, ⟨some 8, some (6, true), .load false 1 (.a 7 1)⟩, ⟨some 9, some (6, true), .call n_spec_l1In [.a 8 1, .c (.int .i64 0), .c (.int .i64 1)]⟩, ⟨some 10, none, .pick (.t 6) (.t 9) (.c (.bool false))⟩, ⟨some 11, none, .mv (.p 10)⟩, ⟨some 12, some (11, true), .faddr 2 (.t 1)⟩, ⟨some 13, some (11, true), .load false 1 (.a 12 1)⟩, ⟨some 14, some (11, true), .call n_spec_dSeed [.a 13 1]⟩, ⟨some 15, none, .pick (.t 11) (.t 14) (.c (.bool false))⟩, ⟨some 2, none, .asg (.p 15)⟩])
 .ret))⟩
/-- spec.eText -/
def a_spec_eText : AFn := ⟨1, 17, [.tmp 2], (.seq (.reg [⟨some 1, none, .box (.t 0)⟩, ⟨some 2, none, .asg (.c (.str ⟨#[]⟩))⟩])
 (.seq (.reg [⟨some 3, none, .faddr 0 (.t 1)⟩, ⟨some 4, none, .load false 1 (.a 3 1)⟩, ⟨some 5, none, .call n_spec_l1Num [.a 4 1]⟩, ⟨some 6, none, .bin .add (.c (.str ⟨#[115, 101, 97, 108, 32]⟩)) (.t 5)⟩, ⟨some 7, none, .bin .add (.t 6) (.c (.str ⟨#[32]⟩))⟩, ⟨some 8, none, .faddr 1 (.t 1)⟩, ⟨some 9, none, .load false 1 (.a 8 1)⟩, ⟨some 10, none, .call n_spec_l1Num [.a 9 1]⟩, ⟨some 11, none, .bin .add (.t 7) (.t 10)⟩, ⟨some 12, none, .bin .add (.t 11) (.c (.str ⟨#[32]⟩))⟩, ⟨some 13, none, .faddr 2 (.t 1)⟩, ⟨some 14, none, .load false 1 (.a 13 1)⟩, ⟨some 15, none, .call n_spec_l1Num [.a 14 1]⟩, ⟨some 16, none, .bin .add (.t 12) (.t 15)⟩, ⟨some 2, none, .asg (.p 16)⟩])
 .ret))⟩
/-- impl.IsSealed -/
def a_impl_IsSealed : AFn := ⟨1, 16, [.tmp 2], (.seq (.reg [⟨some 1, none, .box (.t 0)⟩, ⟨some 2, none, .asg (.c (.bool false))⟩])
 (.seq (.reg [⟨some 3, none, .faddr 0 (.t 1)⟩, ⟨some 4, none, .load false 1 (.a 3 1)⟩, ⟨some 5, none, .call n_impl_isTurn [.a 4 1]⟩, ⟨some 6, none, .mv (.p 5)⟩, ⟨some 7, some (6, true), .faddr 1 (.t 1)⟩, ⟨some 8, some (6, true), .load false 1 (.a 7 1)⟩, ⟨some 9, some (6, true), .call n_impl_isSide [.a 8 1]⟩, ⟨some 10, none, .pick (.t 6) (.t 9) (.c (.bool false))⟩, ⟨some 11, none, .mv (.p 10)⟩, ⟨some 12, some (11, true), .faddr 2 (.t 1)⟩, ⟨some 13, some (11, true), .load false 1 (.a 12 1)⟩, ⟨some 14, some (11, true), .call n_impl_isSeed [.a 13 1]⟩, ⟨some 15, none, .pick (.t 11) (.t 14) (.c (.bool false))⟩, ⟨some 2, none, .asg (.p 15)⟩])
 .ret))⟩
/-- impl.sealedText -/
def a_impl_sealedText : AFn := ⟨1, 11, [.tmp 2], (.seq (.reg [⟨some 1, none, .box (.t 0)⟩, ⟨some 2, none, .asg (.c (.str ⟨#[]⟩))⟩])
 (.seq (.reg [⟨some 3, none, .faddr 0 (.t 1)⟩, ⟨some 4, none, .load false 1 (.a 3 1)⟩, ⟨some 5, none, .faddr 1 (.t 1)⟩, ⟨some 6, none, .load false 1 (.a 5 1)⟩, ⟨some 7, none, .faddr 2 (.t 1)⟩, ⟨some 8, none, .load false 1 (.a 7 1)⟩, ⟨some 9, none, .bslice 1 3 [.int .i64 0] [(0, .p 4), (1, .p 6), (2, .p 8)]⟩, ⟨some 10, none, .call n_impl_wordsText [.c (.str ⟨#[115, 101, 97, 108]⟩), .t 9]⟩, ⟨some 2, none, .asg (.p 10)⟩])
 .ret))⟩
def b_spec_l1Split_0 : AC := (.seq (.seq (.reg [⟨some 8, none, .mv (.p 7)⟩, ⟨some 9, none, .mv (.p 0)⟩, ⟨some 10, none, .slen (.t 9)⟩, ⟨some 11, none, .bin .lss (.t 8) (.t 10)⟩])
 (.cond (.t 11) .skip (.exit 0)))
 (.seq (.block 1 (.seq (.reg [⟨some 14, none, .mv (.p 0)⟩, ⟨some 15, none, .mv (.p 7)⟩, ⟨some 16, none, .sidx (.t 14) (.t 15)⟩, ⟨some 17, none, .mv (.p 1)⟩, ⟨some 18, none, .bin .eql (.t 16) (.t 17)⟩])
 (.cond (.t 18) (.seq (.reg [⟨some 19, none, .rf (.t 5)⟩, ⟨some 20, none, .mv (.p 0)⟩, ⟨some 21, none, .mv (.p 6)⟩, ⟨some 22, none, .mv (.p 7)⟩, ⟨some 23, none, .ssub (.t 20) (some (.t 21)) (some (.t 22))⟩, ⟨some 24, none, .bslice 1 1 [.str ⟨#[]⟩] [(0, .p 23)]⟩, ⟨some 25, none, .append 1 (.a 19 5) (.t 24)⟩, ⟨some 5, none, .asg (.t 25)⟩])
 (.reg [⟨some 26, none, .mv (.p 7)⟩, ⟨some 27, none, .bin .add (.t 26) (.c (.int .i64 1))⟩, ⟨some 6, none, .asg (.p 27)⟩])) .skip)))
 (.reg [⟨some 12, none, .mv (.p 7)⟩, ⟨some 13, none, .bin .add (.t 12) (.c (.int .i64 1))⟩, ⟨some 7, none, .asg (.p 13)⟩])))
/-- spec.l1Split -/
def a_spec_l1Split : AFn := ⟨2, 34, [.tmp 4], (.seq (.reg [⟨some 4, none, .asg (.c (.list true 1 []))⟩])
 (.seq (.reg [⟨some 5, none, .asg (.c (.list true 1 []))⟩])
 (.seq (.reg [⟨some 6, none, .asg (.c (.int .i64 0))⟩])
 (.seq (.seq (.reg [⟨some 7, none, .asg (.c (.int .i64 0))⟩])
 (.block 0 (.loop [0, 1, 5, 6, 7] [0, 4, 5, 6] b_spec_l1Split_0)))
 (.seq (.reg [⟨some 28, none, .rf (.t 5)⟩, ⟨some 29, none, .mv (.p 0)⟩, ⟨some 30, none, .mv (.p 6)⟩, ⟨some 31, none, .ssub (.t 29) (some (.t 30)) none⟩, ⟨some 32, none, .bslice 1 1 [.str ⟨#[]⟩] [(0, .p 31)]⟩, ⟨some 33, none, .append 1 (.a 28 5) (.t 32)⟩, ⟨some 4, none, .asg (.t 33)⟩])
 .ret)))))⟩
def b_spec_l1Read_0 : AC := (.seq (.seq (.reg [⟨some 19, none, .mv (.p 4)⟩, ⟨some 20, none, .mv (.p 0)⟩, ⟨some 21, none, .slen (.t 20)⟩, ⟨some 22, none, .bin .lss (.t 19) (.t 21)⟩])
 (.cond (.t 22) .skip (.exit 0)))
 (.seq (.block 1 (.seq (.seq (.reg [⟨some 25, none, .mv (.p 0)⟩, ⟨some 26, none, .mv (.p 4)⟩, ⟨some 27, none, .sidx (.t 25) (.t 26)⟩, ⟨some 28, none, .bin .lss (.t 27) (.c (.int .u8 48))⟩, ⟨some 29, none, .mv (.p 28)⟩, ⟨some 30, some (29, false), .mv (.p 0)⟩, ⟨some 31, some (29, false), .mv (.p 4)⟩, ⟨some 32, some (29, false), .sidx (.t 30) (.t 31)⟩, ⟨some 33, some (29, false), .bin .gtr (.t 32) (.c (.int .u8 57))⟩, ⟨some 34, none, .pick (.t 29) (.c (.bool true)) (.t 33)⟩])
 (.cond (.t 34) (.seq (.reg [⟨some 2, none, .asg (.c (.int .i64 (-1)))⟩])
 .ret) .skip))
 (.reg [⟨some 35, none, .mv (.p 3)⟩, ⟨some 36, none, .bin .mul (.c (.int .i64 10)) (.t 35)⟩, ⟨some 37, none, .mv (.p 0)⟩, ⟨some 38, none, .mv (.p 4)⟩, ⟨some 39, none, .sidx (.t 37) (.t 38)⟩, ⟨some 40, none, .bin .sub (.t 39) (.c (.int .u8 48))⟩, ⟨some 41, none, .conv .i64 (.t 40)⟩, ⟨some 42, none, .bin .add (.t 36) (.t 41)⟩, ⟨some 3, none, .asg (.p 42)⟩])))
 (.reg [⟨some 23, none, .mv (.p 4)⟩, ⟨some 24, none, .bin .add (.t 23) (.c (.int .i64 1))⟩, ⟨some 4, none, .asg (.p 24)⟩])))
/-- spec.l1Read -/
def a_spec_l1Read : AFn := ⟨1, 44, [.tmp 2], (.seq (.reg [⟨some 2, none, .asg (.c (.int .i64 0))⟩])
 (.seq (.seq (.reg [⟨some 5, none, .mv (.p 0)⟩, ⟨some 6, none, .slen (.t 5)⟩, ⟨some 7, none, .call n_spec_l1In [.t 6, .c (.int .i64 1), .c (.int .i64 6)]⟩, ⟨some 8, none, .un .not (.t 7)⟩, ⟨some 9, none, .mv (.p 8)⟩, ⟨some 10, some (9, false), .mv (.p 0)⟩, ⟨some 11, some (9, false), .sidx (.t 10) (.c (.int .i64 0))⟩, ⟨some 12, some (9, false), .bin .eql (.t 11) (.c (.int .u8 48))⟩, ⟨some 13, some (9, false), .mv (.p 12)⟩, ⟨some 14, some (13, true), .mv (.p 0)⟩, ⟨some 15, some (13, true), .slen (.t 14)⟩, ⟨some 16, some (13, true), .bin .gtr (.t 15) (.c (.int .i64 1))⟩, ⟨some 17, some (9, false), .pick (.t 13) (.t 16) (.c (.bool false))⟩, ⟨some 18, none, .pick (.t 9) (.c (.bool true)) (.t 17)⟩])
 (.cond (.t 18) (.seq (.reg [⟨some 2, none, .asg (.c (.int .i64 (-1)))⟩])
 .ret) .skip))
 (.seq (.reg [⟨some 3, none, .asg (.c (.int .i64 0))⟩])
 (.seq (.seq (.reg [⟨some 4, none, .asg (.c (.int .i64 0))⟩])
 (.block 0 (.loop [0, 3, 4] [2, 3] b_spec_l1Read_0)))
 (.seq (.reg [⟨some 43, none, .mv (.p 3)⟩, ⟨some 2, none, .asg (.p 43)⟩])
 .ret)))))⟩
def b_spec_eDigits_0 : AC := (.seq (.seq (.reg [⟨some 5, none, .mv (.p 4)⟩, ⟨some 6, none, .mv (.p 0)⟩, ⟨some 7, none, .slen (.t 6)⟩, ⟨some 8, none, .bin .lss (.t 5) (.t 7)⟩, ⟨some 9, none, .mv (.p 8)⟩, ⟨some 10, some (9, true), .mv (.p 4)⟩, ⟨some 11, some (9, true), .bin .lss (.t 10) (.c (.int .i64 19))⟩, ⟨some 12, none, .pick (.t 9) (.t 11) (.c (.bool false))⟩])
 (.cond (.t 12) .skip (.exit 0)))
 (.seq (.block 1 (.reg [⟨some 15, none, .mv (.p 3)⟩, ⟨some 16, none, .bin .mul (.c (.int .i64 10)) (.t 15)⟩, ⟨some 17, none, .mv (.p 0)⟩, ⟨some 18, none, .mv (.p 4)⟩, ⟨some 19, none, .sidx (.t 17) (.t 18)⟩, ⟨some 20, none, .conv .i64 (.t 19)⟩, ⟨some 21, none, .bin .add (.t 16) (.t 20)⟩, ⟨some 22, none, .bin .sub (.t 21) (.c (.int .i64 48))⟩, ⟨some 3, none, .asg (.p 22)⟩]))
 (.reg [⟨some 13, none, .mv (.p 4)⟩, ⟨some 14, none, .bin .add (.t 13) (.c (.int .i64 1))⟩, ⟨some 4, none, .asg (.p 14)⟩])))
/-- spec.eDigits -/
def a_spec_eDigits : AFn := ⟨1, 24, [.tmp 2], (.seq (.reg [⟨some 2, none, .asg (.c (.int .i64 0))⟩])
 (.seq (.reg [⟨some 3, none, .asg (.c (.int .i64 0))⟩])
 (.seq (.seq (.reg [⟨some 4, none, .asg (.c (.int .i64 0))⟩])
 (.block 0 (.loop [0, 3, 4] [2, 3] b_spec_eDigits_0)))
 (.seq (.reg [⟨some 23, none, .mv (.p 3)⟩, ⟨some 2, none, .asg (.p 23)⟩])
 .ret))))⟩
/-- spec.l1In -/
def a_spec_l1In : AFn := ⟨3, 15, [.tmp 6], (.seq (.reg [⟨some 6, none, .asg (.c (.bool false))⟩])
 (.seq (.reg [⟨some 7, none, .mv (.p 0)⟩, ⟨some 8, none, .mv (.p 1)⟩, ⟨some 9, none, .bin .geq (.t 7) (.t 8)⟩, ⟨some 10, none, .mv (.p 9)⟩, ⟨some 11, some (10, true), .mv (.p 0)⟩, ⟨some 12, some (10, true), .mv (.p 2)⟩, ⟨some 13, some (10, true), .bin .leq (.t 11) (.t 12)⟩, ⟨some 14, none, .pick (.t 10) (.t 13) (.c (.bool false))⟩, ⟨some 6, none, .asg (.p 14)⟩])
 .ret))⟩
/-- spec.dSeed -/
def a_spec_dSeed : AFn := ⟨1, 5, [.tmp 2], (.seq (.reg [⟨some 2, none, .asg (.c (.bool false))⟩])
 (.seq (.reg [⟨some 3, none, .mv (.p 0)⟩, ⟨some 4, none, .call n_spec_l1In [.t 3, .c (.int .i64 0), .c (.int .i64 4611686016279904236)]⟩, ⟨some 2, none, .asg (.p 4)⟩])
 .ret))⟩
/-- spec.l1Num -/
def a_spec_l1Num : AFn := ⟨1, 20, [.tmp 2], (.seq (.reg [⟨some 2, none, .asg (.c (.str ⟨#[]⟩))⟩])
 (.seq (.seq (.reg [⟨some 3, none, .mv (.p 0)⟩, ⟨some 4, none, .bin .lss (.t 3) (.c (.int .i64 10))⟩])
 (.cond (.t 4) (.seq (.reg [⟨some 5, none, .mv (.p 0)⟩, ⟨some 6, none, .bin .add (.c (.int .i64 48)) (.t 5)⟩, ⟨some 7, none, .conv .u8 (.t 6)⟩, ⟨some 8, none, .bslice 1 1 [.int .u8 0] [(0, .p 7)]⟩, ⟨some 9, none, .bstr 8⟩, ⟨some 2, none, .asg (.p 9)⟩])
 .ret) .skip))
 (.seq (.reg [⟨some 10, none, .mv (.p 0)⟩, ⟨some 11, none, .bin .quo (.t 10) (.c (.int .i64 10))⟩, ⟨some 12, none, .call n_spec_l1Num [.t 11]⟩, ⟨some 13, none, .mv (.p 0)⟩, ⟨some 14, none, .bin .rem (.t 13) (.c (.int .i64 10))⟩, ⟨some 15, none, .bin .add (.c (.int .i64 48)) (.t 14)⟩, ⟨some 16, none, .conv .u8 (.t 15)⟩, ⟨some 17, none, .bslice 1 1 [.int .u8 0] [(0, .p 16)]⟩, ⟨some 18, none, .bstr 17⟩, ⟨some 19, none, .bin .add (.t 12) (.t 18)⟩, ⟨some 2, none, .asg (.p 19)⟩])
 .ret)))⟩
/-- impl.isTurn -/
def a_impl_isTurn : AFn := ⟨1, 5, [.tmp 2], (.seq (.reg [⟨some 2, none, .asg (.c (.bool false))⟩])
 (.seq (.reg [⟨some 3, none, .mv (.p 0)⟩, ⟨some 4, none, .call n_impl_inRange [.t 3, .c (.int .i64 0), .c (.int .i64 30)]⟩, ⟨some 2, none, .asg (.p 4)⟩])
 .ret))⟩
/-- impl.isSide -/
def a_impl_isSide : AFn := ⟨1, 5, [.tmp 2], (.seq (.reg [⟨some 2, none, .asg (.c (.bool false))⟩])
 (.seq (.reg [⟨some 3, none, .mv (.p 0)⟩, ⟨some 4, none, .call n_impl_inRange [.t 3, .c (.int .i64 0), .c (.int .i64 1)]⟩, ⟨some 2, none, .asg (.p 4)⟩])
 .ret))⟩
/-- impl.isSeed -/
def a_impl_isSeed : AFn := ⟨1, 5, [.tmp 2], (.seq (.reg [⟨some 2, none, .asg (.c (.bool false))⟩])
 (.seq (.reg [⟨some 3, none, .mv (.p 0)⟩, ⟨some 4, none, .call n_impl_inRange [.t 3, .c (.int .i64 0), .c (.int .i64 4611686016279904236)]⟩, ⟨some 2, none, .asg (.p 4)⟩])
 .ret))⟩
def b_impl_wordsText_0 : AC := (.seq (.reg [⟨some 13, none, .bin .lss (.t 12) (.t 11)⟩])
 (.seq (.cond (.t 13) .skip (.exit 0))
 (.seq (.block 1 (.seq (.reg [⟨some 14, none, .iaddr 1 (.a 10 1) (.t 12)⟩, ⟨some 15, none, .load false 1 (.a 14 1)⟩, ⟨some 7, none, .asg (.p 15)⟩])
 (.reg [⟨some 16, none, .rf (.t 5)⟩, ⟨some 17, none, .mv (.p 7)⟩, ⟨some 18, none, .call n_strconv_Itoa [.t 17]⟩, ⟨some 19, none, .bslice 1 1 [.str ⟨#[]⟩] [(0, .p 18)]⟩, ⟨some 20, none, .append 1 (.a 16 5) (.t 19)⟩, ⟨some 5, none, .asg (.t 20)⟩])))
 (.reg [⟨some 21, none, .bin .add (.t 12) (.c (.int .i64 1))⟩, ⟨some 12, none, .mv (.p 21)⟩]))))
/-- impl.wordsText -/
def a_impl_wordsText : AFn := ⟨2, 24, [.tmp 4], (.seq (.reg [⟨some 4, none, .asg (.c (.str ⟨#[]⟩))⟩])
 (.seq (.reg [⟨some 8, none, .mv (.p 0)⟩, ⟨some 9, none, .bslice 1 1 [.str ⟨#[]⟩] [(0, .p 8)]⟩, ⟨some 5, none, .asg (.t 9)⟩])
 (.seq (.seq (.reg [⟨some 10, none, .rf (.t 1)⟩, ⟨some 11, none, .len (.a 10 1)⟩, ⟨some 12, none, .mv (.c (.int .i64 0))⟩])
 (.block 0 (.loop [1, 5, 10, 11, 12] [4, 5] b_impl_wordsText_0)))
 (.seq (.reg [⟨some 22, none, .rf (.t 5)⟩, ⟨some 23, none, .call n_strings_Join [.a 22 5, .c (.str ⟨#[32]⟩)]⟩, ⟨some 4, none, .asg (.p 23)⟩])
 .ret))))⟩
/-- impl.inRange -/
def a_impl_inRange : AFn := ⟨3, 15, [.tmp 6], (.seq (.reg [⟨some 6, none, .asg (.c (.bool false))⟩])
 (.seq (.reg [⟨some 7, none, .mv (.p 1)⟩, ⟨some 8, none, .mv (.p 0)⟩, ⟨some 9, none, .bin .leq (.t 7) (.t 8)⟩, ⟨some 10, none, .mv (.p 9)⟩, ⟨some 11, some (10, true), .mv (.p 0)⟩, ⟨some 12, some (10, true), .mv (.p 2)⟩, ⟨some 13, some (10, true), .bin .leq (.t 11) (.t 12)⟩, ⟨some 14, none, .pick (.t 10) (.t 13) (.c (.bool false))⟩, ⟨some 6, none, .asg (.p 14)⟩])
 .ret))⟩
end Go.Abs.W
