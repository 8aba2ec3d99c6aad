/- The abstract code of the functions. -/
import Derived.Test.YtcknpclhcilmaaaGreatDoorCode0
set_option maxRecDepth 100000
namespace Go.Abs.W
open Go Go.Abs
/-- spec.sOwn -/
def a_spec_sOwn : AFn := ⟨1, 12, [.cell 2 3 true], (.seq (.reg [⟨some 1, none, .box (.t 0)⟩, ⟨some 2, none, .alloc [.int .i64 0, .int .i64 0, .list true 4 []]⟩])
 (.seq (.reg [⟨some 3, none, .faddr 0 (.t 1)⟩, ⟨some 4, none, .load false 1 (.a 3 1)⟩, ⟨some 5, none, .faddr 1 (.t 1)⟩, ⟨some 6, none, .load false 1 (.a 5 1)⟩, ⟨some 7, none, .bslice 4 0 [.int .i64 0, .int .i64 0, .int .i64 0, .int .i64 0] []⟩, ⟨some 8, none, .faddr 2 (.t 1)⟩, ⟨some 9, none, .load false 1 (.a 8 1)⟩, ⟨some 10, none, .append 4 (.t 7) (.p 9)⟩, ⟨some 11, none, .build [.int .i64 0, .int .i64 0, .list true 4 []] [(0, 1, .p 4), (1, 1, .p 6), (2, 1, .t 10)]⟩, ⟨none, none, .store 3 (.t 2) (.t 11)⟩])
 .ret))⟩
/-- spec.sLose -/
def a_spec_sLose : AFn := ⟨3, 32, [.io 0], (.seq (.reg [⟨some 3, none, .boxk 0⟩])
 (.seq (.reg [⟨some 6, none, .faddr 2 (.t 3)⟩, ⟨some 7, none, .load false 1 (.a 6 3)⟩, ⟨some 8, none, .mv (.p 1)⟩, ⟨some 9, none, .faddr 2 (.t 3)⟩, ⟨some 10, none, .load false 1 (.a 9 3)⟩, ⟨some 11, none, .mv (.p 1)⟩, ⟨some 12, none, .iaddr 4 (.a 10 3) (.t 11)⟩, ⟨some 13, none, .faddr 3 (.a 12 3)⟩, ⟨some 14, none, .load false 1 (.a 13 3)⟩, ⟨some 15, none, .mv (.p 2)⟩, ⟨some 16, none, .bin .sub (.a 14 3) (.t 15)⟩, ⟨some 17, none, .call n_spec_l1Most [.c (.int .i64 0), .t 16]⟩, ⟨some 18, none, .iaddr 4 (.a 7 3) (.t 8)⟩, ⟨some 19, none, .faddr 3 (.a 18 3)⟩, ⟨none, none, .store 1 (.a 19 3) (.p 17)⟩])
 (.seq (.reg [⟨some 20, none, .faddr 2 (.t 3)⟩, ⟨some 21, none, .load false 1 (.a 20 3)⟩, ⟨some 22, none, .mv (.p 1)⟩, ⟨some 23, none, .iaddr 4 (.a 21 3) (.t 22)⟩, ⟨some 24, none, .faddr 3 (.a 23 3)⟩, ⟨some 25, none, .load false 1 (.a 24 3)⟩, ⟨some 26, none, .bin .eql (.a 25 3) (.c (.int .i64 0))⟩])
 (.cond (.t 26) (.reg [⟨some 27, none, .faddr 2 (.t 3)⟩, ⟨some 28, none, .load false 1 (.a 27 3)⟩, ⟨some 29, none, .mv (.p 1)⟩, ⟨some 30, none, .iaddr 4 (.a 28 3) (.t 29)⟩, ⟨some 31, none, .faddr 2 (.a 30 3)⟩, ⟨none, none, .store 1 (.a 31 3) (.c (.int .i64 (-1)))⟩]) .skip))))⟩
def b_spec_aMost_0 : AC := (.seq (.reg [⟨some 14, none, .bin .lss (.t 13) (.t 12)⟩])
 (.seq (.cond (.t 14) .skip (.exit 0))
 (.seq (.block 1 (.seq (.reg [⟨some 15, none, .iaddr 1 (.a 11 1) (.t 13)⟩, ⟨some 16, none, .load false 1 (.a 15 1)⟩, ⟨some 7, none, .asg (.p 16)⟩])
 (.seq (.reg [⟨some 17, none, .faddr 2 (.t 2)⟩, ⟨some 18, none, .load false 1 (.a 17 2)⟩, ⟨some 19, none, .mv (.p 7)⟩, ⟨some 20, none, .iaddr 4 (.a 18 2) (.t 19)⟩, ⟨some 21, none, .faddr 3 (.a 20 2)⟩, ⟨some 22, none, .load false 1 (.a 21 2)⟩, ⟨some 23, none, .faddr 2 (.t 2)⟩, ⟨some 24, none, .load false 1 (.a 23 2)⟩, ⟨some 25, none, .mv (.p 5)⟩, ⟨some 26, none, .iaddr 4 (.a 24 2) (.t 25)⟩, ⟨some 27, none, .faddr 3 (.a 26 2)⟩, ⟨some 28, none, .load false 1 (.a 27 2)⟩, ⟨some 29, none, .bin .gtr (.a 22 2) (.a 28 2)⟩])
 (.cond (.t 29) (.reg [⟨some 30, none, .mv (.p 7)⟩, ⟨some 5, none, .asg (.p 30)⟩]) .skip))))
 (.reg [⟨some 31, none, .bin .add (.t 13) (.c (.int .i64 1))⟩, ⟨some 13, none, .mv (.p 31)⟩]))))
/-- spec.aMost -/
def a_spec_aMost : AFn := ⟨2, 33, [.tmp 4], (.seq (.reg [⟨some 2, none, .box (.t 0)⟩, ⟨some 4, none, .asg (.c (.int .i64 0))⟩])
 (.seq (.reg [⟨some 8, none, .rf (.t 1)⟩, ⟨some 9, none, .iaddr 1 (.a 8 1) (.c (.int .i64 0))⟩, ⟨some 10, none, .load false 1 (.a 9 1)⟩, ⟨some 5, none, .asg (.p 10)⟩])
 (.seq (.seq (.reg [⟨some 11, none, .rf (.t 1)⟩, ⟨some 12, none, .len (.a 11 1)⟩, ⟨some 13, none, .mv (.c (.int .i64 0))⟩])
 (.block 0 (.loop [1, 2, 5, 11, 12, 13] [4, 5] b_spec_aMost_0)))
 (.seq (.reg [⟨some 32, none, .mv (.p 5)⟩, ⟨some 4, none, .asg (.p 32)⟩])
 .ret))))⟩
def b_impl_goodBattle_0 : AC := (.seq (.reg [⟨some 47, none, .bin .lss (.t 46) (.t 45)⟩])
 (.seq (.cond (.t 47) .skip (.exit 0))
 (.seq (.block 1 (.seq (.reg [⟨some 48, none, .iaddr 1 (.a 44 5) (.t 46)⟩, ⟨some 49, none, .load false 1 (.a 48 5)⟩, ⟨some 8, none, .asg (.p 49)⟩])
 (.seq (.reg [⟨some 50, none, .mv (.p 8)⟩, ⟨some 51, none, .faddr 2 (.t 4)⟩, ⟨some 52, none, .load false 1 (.a 51 4)⟩, ⟨some 53, none, .len (.a 52 4)⟩, ⟨some 54, none, .call n_impl_isIndex [.t 50, .t 53]⟩, ⟨some 55, none, .un .not (.t 54)⟩, ⟨some 56, none, .mv (.p 55)⟩, ⟨some 57, some (56, false), .faddr 2 (.t 4)⟩, ⟨some 58, some (56, false), .load false 1 (.a 57 4)⟩, ⟨some 59, some (56, false), .mv (.p 8)⟩, ⟨some 60, some (56, false), .iaddr 4 (.a 58 4) (.t 59)⟩, ⟨some 61, some (56, false), .faddr 0 (.a 60 4)⟩, ⟨some 62, some (56, false), .load false 1 (.a 61 4)⟩, ⟨some 63, some (56, false), .load true 3 (.t 4)⟩, ⟨some 64, some (56, false), .faddr 0 (.t 5)⟩, ⟨some 65, some (56, false), .load false 1 (.a 64 5)⟩, ⟨some 66, some (56, false), .call n_impl_ownerOf [.a 63 4, .a 65 5]⟩, ⟨some 67, some (56, false), .bin .eql (.a 62 4) (.t 66)⟩, ⟨some 68, none, .pick (.t 56) (.c (.bool true)) (.t 67)⟩, ⟨some 69, none, .mv (.p 68)⟩, ⟨some 70, some (69, false), .load true 12 (.t 3)⟩, ⟨some 71, some (69, false), .faddr 2 (.t 4)⟩, ⟨some 72, some (69, false), .load false 1 (.a 71 4)⟩, ⟨some 73, some (69, false), .mv (.p 8)⟩, ⟨some 74, some (69, false), .iaddr 4 (.a 72 4) (.t 73)⟩, ⟨some 75, some (69, false), .load true 4 (.a 74 4)⟩, ⟨some 76, some (69, false), .faddr 0 (.t 5)⟩, ⟨some 77, some (69, false), .load false 1 (.a 76 5)⟩, ⟨some 78, some (69, false), .call n_impl_isNear [.a 70 3, .a 75 4, .a 77 5]⟩, ⟨some 79, some (69, false), .un .not (.t 78)⟩, ⟨some 80, none, .pick (.t 69) (.c (.bool true)) (.t 79)⟩])
 (.cond (.t 80) (.seq (.reg [⟨some 6, none, .asg (.c (.bool false))⟩])
 .ret) .skip))))
 (.reg [⟨some 81, none, .bin .add (.t 46) (.c (.int .i64 1))⟩, ⟨some 46, none, .mv (.p 81)⟩]))))
/-- impl.goodBattle -/
def a_impl_goodBattle : AFn := ⟨3, 82, [.tmp 6], (.seq (.reg [⟨some 3, none, .box (.t 0)⟩, ⟨some 4, none, .box (.t 1)⟩, ⟨some 5, none, .box (.t 2)⟩, ⟨some 6, none, .asg (.c (.bool false))⟩])
 (.seq (.seq (.reg [⟨some 9, none, .faddr 0 (.t 5)⟩, ⟨some 10, none, .load false 1 (.a 9 5)⟩, ⟨some 11, none, .load true 12 (.t 3)⟩, ⟨some 12, none, .call n_impl_sizeOf [.a 11 3]⟩, ⟨some 13, none, .call n_impl_isIndex [.a 10 5, .t 12]⟩, ⟨some 14, none, .un .not (.t 13)⟩, ⟨some 15, none, .mv (.p 14)⟩, ⟨some 16, some (15, false), .faddr 2 (.t 5)⟩, ⟨some 17, some (15, false), .load false 1 (.a 16 5)⟩, ⟨some 18, some (15, false), .len (.a 17 5)⟩, ⟨some 19, some (15, false), .bin .eql (.t 18) (.c (.int .i64 0))⟩, ⟨some 20, none, .pick (.t 15) (.c (.bool true)) (.t 19)⟩, ⟨some 21, none, .mv (.p 20)⟩, ⟨some 22, some (21, false), .faddr 2 (.t 5)⟩, ⟨some 23, some (21, false), .load false 1 (.a 22 5)⟩, ⟨some 24, some (21, false), .load true 3 (.t 4)⟩, ⟨some 25, some (21, false), .faddr 0 (.t 5)⟩, ⟨some 26, some (21, false), .load false 1 (.a 25 5)⟩, ⟨some 27, some (21, false), .call n_impl_unitsAt [.a 24 4, .a 26 5]⟩, ⟨some 28, some (21, false), .call n_slices_Equal_int_int [.a 23 5, .t 27]⟩, ⟨some 29, some (21, false), .un .not (.t 28)⟩, ⟨some 30, none, .pick (.t 21) (.c (.bool true)) (.t 29)⟩, ⟨some 31, none, .mv (.p 30)⟩, ⟨some 32, some (31, false), .faddr 1 (.t 5)⟩, ⟨some 33, some (31, false), .load false 1 (.a 32 5)⟩, ⟨some 34, some (31, false), .len (.a 33 5)⟩, ⟨some 35, some (31, false), .bin .eql (.t 34) (.c (.int .i64 0))⟩, ⟨some 36, none, .pick (.t 31) (.c (.bool true)) (.t 35)⟩, ⟨some 37, none, .mv (.p 36)⟩, ⟨some 38, some (37, false), .faddr 1 (.t 5)⟩, ⟨some 39, some (37, false), .load false 1 (.a 38 5)⟩, ⟨some 40, some (37, false), .call n_impl_increasing [.a 39 5]⟩, ⟨some 41, some (37, false), .un .not (.t 40)⟩, ⟨some 42, none, .pick (.t 37) (.c (.bool true)) (.t 41)⟩])
 (.cond (.t 42) (.seq (.reg [⟨some 6, none, .asg (.c (.bool false))⟩])
 .ret) .skip))
 (.seq (.seq (.reg [⟨some 43, none, .faddr 1 (.t 5)⟩, ⟨some 44, none, .load false 1 (.a 43 5)⟩, ⟨some 45, none, .len (.a 44 5)⟩, ⟨some 46, none, .mv (.c (.int .i64 0))⟩])
 (.block 0 (.loop [3, 4, 5, 44, 45, 46] [6] b_impl_goodBattle_0)))
 (.seq (.reg [⟨some 6, none, .asg (.c (.bool true))⟩])
 .ret))))⟩
/-- impl.loseSteps -/
def a_impl_loseSteps : AFn := ⟨3, 29, [.io 0], (.seq (.reg [⟨some 3, none, .boxk 0⟩])
 (.seq (.reg [⟨some 7, none, .faddr 2 (.t 3)⟩, ⟨some 8, none, .load false 1 (.a 7 3)⟩, ⟨some 9, none, .mv (.p 1)⟩, ⟨some 10, none, .iaddr 4 (.a 8 3) (.t 9)⟩, ⟨some 6, none, .nc (.a 10 3)⟩])
 (.seq (.reg [⟨some 11, none, .rf (.a 6 3)⟩, ⟨some 12, none, .rf (.a 6 3)⟩, ⟨some 13, none, .nc (.a 12 3)⟩, ⟨some 14, none, .faddr 3 (.a 13 3)⟩, ⟨some 15, none, .load false 1 (.a 14 3)⟩, ⟨some 16, none, .mv (.p 2)⟩, ⟨some 17, none, .bin .sub (.a 15 3) (.t 16)⟩, ⟨some 18, none, .mm true (.t 17) (.c (.int .i64 0))⟩, ⟨some 19, none, .nc (.a 11 3)⟩, ⟨some 20, none, .faddr 3 (.a 19 3)⟩, ⟨none, none, .store 1 (.a 20 3) (.p 18)⟩])
 (.seq (.reg [⟨some 21, none, .rf (.a 6 3)⟩, ⟨some 22, none, .nc (.a 21 3)⟩, ⟨some 23, none, .faddr 3 (.a 22 3)⟩, ⟨some 24, none, .load false 1 (.a 23 3)⟩, ⟨some 25, none, .bin .eql (.a 24 3) (.c (.int .i64 0))⟩])
 (.cond (.t 25) (.reg [⟨some 26, none, .rf (.a 6 3)⟩, ⟨some 27, none, .nc (.a 26 3)⟩, ⟨some 28, none, .faddr 2 (.a 27 3)⟩, ⟨none, none, .store 1 (.a 28 3) (.c (.int .i64 (-1)))⟩]) .skip)))))⟩
def b_impl_strongest_0 : AC := (.seq (.reg [⟨some 14, none, .bin .lss (.t 13) (.t 12)⟩])
 (.seq (.cond (.t 14) .skip (.exit 0))
 (.seq (.block 1 (.seq (.reg [⟨some 15, none, .iaddr 1 (.a 11 1) (.t 13)⟩, ⟨some 16, none, .load false 1 (.a 15 1)⟩, ⟨some 7, none, .asg (.p 16)⟩])
 (.seq (.reg [⟨some 17, none, .faddr 2 (.t 2)⟩, ⟨some 18, none, .load false 1 (.a 17 2)⟩, ⟨some 19, none, .mv (.p 7)⟩, ⟨some 20, none, .iaddr 4 (.a 18 2) (.t 19)⟩, ⟨some 21, none, .faddr 3 (.a 20 2)⟩, ⟨some 22, none, .load false 1 (.a 21 2)⟩, ⟨some 23, none, .faddr 2 (.t 2)⟩, ⟨some 24, none, .load false 1 (.a 23 2)⟩, ⟨some 25, none, .mv (.p 5)⟩, ⟨some 26, none, .iaddr 4 (.a 24 2) (.t 25)⟩, ⟨some 27, none, .faddr 3 (.a 26 2)⟩, ⟨some 28, none, .load false 1 (.a 27 2)⟩, ⟨some 29, none, .bin .gtr (.a 22 2) (.a 28 2)⟩])
 (.cond (.t 29) (.reg [⟨some 30, none, .mv (.p 7)⟩, ⟨some 5, none, .asg (.p 30)⟩]) .skip))))
 (.reg [⟨some 31, none, .bin .add (.t 13) (.c (.int .i64 1))⟩, ⟨some 13, none, .mv (.p 31)⟩]))))
/-- impl.strongest -/
def a_impl_strongest : AFn := ⟨2, 33, [.tmp 4], (.seq (.reg [⟨some 2, none, .box (.t 0)⟩, ⟨some 4, none, .asg (.c (.int .i64 0))⟩])
 (.seq (.reg [⟨some 8, none, .rf (.t 1)⟩, ⟨some 9, none, .iaddr 1 (.a 8 1) (.c (.int .i64 0))⟩, ⟨some 10, none, .load false 1 (.a 9 1)⟩, ⟨some 5, none, .asg (.p 10)⟩])
 (.seq (.seq (.reg [⟨some 11, none, .rf (.t 1)⟩, ⟨some 12, none, .len (.a 11 1)⟩, ⟨some 13, none, .mv (.c (.int .i64 0))⟩])
 (.block 0 (.loop [1, 2, 5, 11, 12, 13] [4, 5] b_impl_strongest_0)))
 (.seq (.reg [⟨some 32, none, .mv (.p 5)⟩, ⟨some 4, none, .asg (.p 32)⟩])
 .ret))))⟩
def b_spec_fGood_0 : AC := (.seq (.reg [⟨some 12, none, .bin .lss (.t 11) (.t 10)⟩])
 (.seq (.cond (.t 12) .skip (.exit 0))
 (.seq (.block 1 (.seq (.reg [⟨some 13, none, .mv (.p 11)⟩, ⟨some 14, none, .iaddr 3 (.a 9 2) (.t 11)⟩, ⟨some 15, none, .load true 3 (.a 14 2)⟩, ⟨some 8, none, .alloc [.int .i64 0, .int .i64 0, .int .i64 0]⟩, ⟨some 7, none, .asg (.p 13)⟩, ⟨none, none, .store 3 (.t 8) (.a 15 2)⟩])
 (.seq (.reg [⟨some 16, none, .load true 12 (.t 3)⟩, ⟨some 17, none, .load true 3 (.t 4)⟩, ⟨some 18, none, .load true 3 (.t 8)⟩, ⟨some 19, none, .call n_spec_fTry [.a 16 3, .a 17 4, .a 18 8]⟩, ⟨some 20, none, .un .not (.t 19)⟩, ⟨some 21, none, .mv (.p 20)⟩, ⟨some 22, some (21, false), .mv (.p 7)⟩, ⟨some 23, some (21, false), .bin .gtr (.t 22) (.c (.int .i64 0))⟩, ⟨some 24, some (21, false), .mv (.p 23)⟩, ⟨some 25, some (24, true), .rf (.t 2)⟩, ⟨some 26, some (24, true), .mv (.p 7)⟩, ⟨some 27, some (24, true), .bin .sub (.t 26) (.c (.int .i64 1))⟩, ⟨some 28, some (24, true), .iaddr 3 (.a 25 2) (.t 27)⟩, ⟨some 29, some (24, true), .faddr 0 (.a 28 2)⟩, ⟨some 30, some (24, true), .load false 1 (.a 29 2)⟩, ⟨some 31, some (24, true), .faddr 0 (.t 8)⟩, ⟨some 32, some (24, true), .load false 1 (.a 31 8)⟩, ⟨some 33, some (24, true), .bin .geq (.a 30 2) (.a 32 8)⟩, ⟨some 34, some (21, false), .pick (.t 24) (.t 33) (.c (.bool false))⟩, ⟨some 35, none, .pick (.t 21) (.c (.bool true)) (.t 34)⟩])
 (.cond (.t 35) (.seq (.reg [⟨some 6, none, .asg (.c (.bool false))⟩])
 .ret) .skip))))
 (.reg [⟨some 36, none, .bin .add (.t 11) (.c (.int .i64 1))⟩, ⟨some 11, none, .mv (.p 36)⟩]))))
/-- spec.fGood -/
def a_spec_fGood : AFn := ⟨3, 37, [.tmp 6], (.seq (.reg [⟨some 3, none, .box (.t 0)⟩, ⟨some 4, none, .box (.t 1)⟩, ⟨some 6, none, .asg (.c (.bool false))⟩])
 (.seq (.seq (.reg [⟨some 9, none, .rf (.t 2)⟩, ⟨some 10, none, .len (.a 9 2)⟩, ⟨some 11, none, .mv (.c (.int .i64 0))⟩])
 (.block 0 (.loop [2, 3, 4, 9, 10, 11] [6] b_spec_fGood_0)))
 (.seq (.reg [⟨some 6, none, .asg (.c (.bool true))⟩])
 .ret)))⟩
def b_spec_fStays_0 : AC := (.seq (.reg [⟨some 18, none, .bin .lss (.t 17) (.t 16)⟩])
 (.seq (.cond (.t 18) .skip (.exit 0))
 (.seq (.block 1 (.seq (.reg [⟨some 19, none, .iaddr 1 (.t 15) (.t 17)⟩, ⟨some 20, none, .load false 1 (.a 19 15)⟩, ⟨some 11, none, .asg (.p 20)⟩])
 (.seq (.reg [⟨some 21, none, .rf (.t 1)⟩, ⟨some 22, none, .mv (.p 11)⟩, ⟨some 23, none, .call n_spec_fLeaves [.a 21 1, .t 22]⟩, ⟨some 24, none, .un .not (.t 23)⟩])
 (.cond (.t 24) (.reg [⟨some 25, none, .mv (.p 9)⟩, ⟨some 26, none, .bin .add (.t 25) (.c (.int .i64 1))⟩, ⟨some 9, none, .asg (.p 26)⟩]) .skip))))
 (.reg [⟨some 27, none, .bin .add (.t 17) (.c (.int .i64 1))⟩, ⟨some 17, none, .mv (.p 27)⟩]))))
/-- spec.fStays -/
def a_spec_fStays : AFn := ⟨4, 29, [.tmp 8], (.seq (.reg [⟨some 4, none, .box (.t 0)⟩, ⟨some 8, none, .asg (.c (.int .i64 0))⟩])
 (.seq (.reg [⟨some 9, none, .asg (.c (.int .i64 0))⟩])
 (.seq (.seq (.reg [⟨some 12, none, .load true 3 (.t 4)⟩, ⟨some 13, none, .mv (.p 2)⟩, ⟨some 14, none, .mv (.p 3)⟩, ⟨some 15, none, .call n_spec_sAt [.a 12 4, .t 13, .t 14]⟩, ⟨some 16, none, .len (.t 15)⟩, ⟨some 17, none, .mv (.c (.int .i64 0))⟩])
 (.block 0 (.loop [1, 9, 15, 16, 17] [8, 9] b_spec_fStays_0)))
 (.seq (.reg [⟨some 28, none, .mv (.p 9)⟩, ⟨some 8, none, .asg (.p 28)⟩])
 .ret))))⟩
def b_impl_goodAttempts_0 : AC := (.seq (.reg [⟨some 14, none, .bin .lss (.t 13) (.t 12)⟩])
 (.seq (.cond (.t 14) .skip (.exit 0))
 (.seq (.block 1 (.seq (.reg [⟨some 15, none, .mv (.p 13)⟩, ⟨some 16, none, .iaddr 3 (.a 11 2) (.t 13)⟩, ⟨some 17, none, .load true 3 (.a 16 2)⟩, ⟨some 8, none, .alloc [.int .i64 0, .int .i64 0, .int .i64 0]⟩, ⟨some 7, none, .asg (.p 15)⟩, ⟨none, none, .store 3 (.t 8) (.a 17 2)⟩])
 (.seq (.seq (.reg [⟨some 18, none, .mv (.p 7)⟩, ⟨some 19, none, .bin .gtr (.t 18) (.c (.int .i64 0))⟩, ⟨some 20, none, .mv (.p 19)⟩, ⟨some 21, some (20, true), .rf (.t 2)⟩, ⟨some 22, some (20, true), .mv (.p 7)⟩, ⟨some 23, some (20, true), .bin .sub (.t 22) (.c (.int .i64 1))⟩, ⟨some 24, some (20, true), .iaddr 3 (.a 21 2) (.t 23)⟩, ⟨some 25, some (20, true), .faddr 0 (.a 24 2)⟩, ⟨some 26, some (20, true), .load false 1 (.a 25 2)⟩, ⟨some 27, some (20, true), .faddr 0 (.t 8)⟩, ⟨some 28, some (20, true), .load false 1 (.a 27 8)⟩, ⟨some 29, some (20, true), .bin .geq (.a 26 2) (.a 28 8)⟩, ⟨some 30, none, .pick (.t 20) (.t 29) (.c (.bool false))⟩, ⟨some 31, none, .mv (.p 30)⟩, ⟨some 32, some (31, false), .faddr 0 (.t 8)⟩, ⟨some 33, some (31, false), .load false 1 (.a 32 8)⟩, ⟨some 34, some (31, false), .faddr 2 (.t 4)⟩, ⟨some 35, some (31, false), .load false 1 (.a 34 4)⟩, ⟨some 36, some (31, false), .len (.a 35 4)⟩, ⟨some 37, some (31, false), .call n_impl_isIndex [.a 33 8, .t 36]⟩, ⟨some 38, some (31, false), .un .not (.t 37)⟩, ⟨some 39, none, .pick (.t 31) (.c (.bool true)) (.t 38)⟩, ⟨some 40, none, .mv (.p 39)⟩, ⟨some 41, some (40, false), .faddr 1 (.t 8)⟩, ⟨some 42, some (40, false), .load false 1 (.a 41 8)⟩, ⟨some 43, some (40, false), .load true 12 (.t 3)⟩, ⟨some 44, some (40, false), .call n_impl_sizeOf [.a 43 3]⟩, ⟨some 45, some (40, false), .call n_impl_isIndex [.a 42 8, .t 44]⟩, ⟨some 46, some (40, false), .un .not (.t 45)⟩, ⟨some 47, none, .pick (.t 40) (.c (.bool true)) (.t 46)⟩, ⟨some 48, none, .mv (.p 47)⟩, ⟨some 49, some (48, false), .faddr 2 (.t 8)⟩, ⟨some 50, some (48, false), .load false 1 (.a 49 8)⟩, ⟨some 51, some (48, false), .load true 12 (.t 3)⟩, ⟨some 52, some (48, false), .call n_impl_sizeOf [.a 51 3]⟩, ⟨some 53, some (48, false), .call n_impl_isIndex [.a 50 8, .t 52]⟩, ⟨some 54, some (48, false), .un .not (.t 53)⟩, ⟨some 55, none, .pick (.t 48) (.c (.bool true)) (.t 54)⟩])
 (.cond (.t 55) (.seq (.reg [⟨some 6, none, .asg (.c (.bool false))⟩])
 .ret) .skip))
 (.seq (.reg [⟨some 56, none, .faddr 2 (.t 4)⟩, ⟨some 57, none, .load false 1 (.a 56 4)⟩, ⟨some 58, none, .faddr 0 (.t 8)⟩, ⟨some 59, none, .load false 1 (.a 58 8)⟩, ⟨some 60, none, .iaddr 4 (.a 57 4) (.a 59 8)⟩, ⟨some 61, none, .load true 4 (.a 60 4)⟩, ⟨some 62, none, .faddr 7 (.t 3)⟩, ⟨some 63, none, .load true 5 (.a 62 3)⟩, ⟨some 64, none, .faddr 1 (.t 8)⟩, ⟨some 65, none, .load false 1 (.a 64 8)⟩, ⟨some 66, none, .faddr 2 (.t 8)⟩, ⟨some 67, none, .load false 1 (.a 66 8)⟩, ⟨some 68, none, .call n_impl_directionOn [.a 63 3, .a 65 8, .a 67 8]⟩, ⟨some 9, none, .alloc [.int .i64 0, .int .i64 0, .int .i64 0, .int .i64 0]⟩, ⟨none, none, .store 4 (.t 9) (.a 61 4)⟩, ⟨some 10, none, .asg (.p 68)⟩])
 (.seq (.reg [⟨some 69, none, .faddr 2 (.t 9)⟩, ⟨some 70, none, .load false 1 (.a 69 9)⟩, ⟨some 71, none, .faddr 1 (.t 8)⟩, ⟨some 72, none, .load false 1 (.a 71 8)⟩, ⟨some 73, none, .bin .neq (.a 70 9) (.a 72 8)⟩, ⟨some 74, none, .mv (.p 73)⟩, ⟨some 75, some (74, false), .mv (.p 10)⟩, ⟨some 76, some (74, false), .bin .lss (.t 75) (.c (.int .i64 0))⟩, ⟨some 77, none, .pick (.t 74) (.c (.bool true)) (.t 76)⟩, ⟨some 78, none, .mv (.p 77)⟩, ⟨some 79, some (78, false), .load true 12 (.t 3)⟩, ⟨some 80, some (78, false), .faddr 1 (.t 9)⟩, ⟨some 81, some (78, false), .load false 1 (.a 80 9)⟩, ⟨some 82, some (78, false), .faddr 1 (.t 4)⟩, ⟨some 83, some (78, false), .load false 1 (.a 82 4)⟩, ⟨some 84, some (78, false), .faddr 1 (.t 8)⟩, ⟨some 85, some (78, false), .load false 1 (.a 84 8)⟩, ⟨some 86, some (78, false), .mv (.p 10)⟩, ⟨some 87, some (78, false), .call n_impl_stepCost [.a 79 3, .a 81 9, .a 83 4, .a 85 8, .t 86]⟩, ⟨some 88, some (78, false), .bin .eql (.t 87) (.c (.int .i64 0))⟩, ⟨some 89, none, .pick (.t 78) (.c (.bool true)) (.t 88)⟩])
 (.cond (.t 89) (.seq (.reg [⟨some 6, none, .asg (.c (.bool false))⟩])
 .ret) .skip))))))
 (.reg [⟨some 90, none, .bin .add (.t 13) (.c (.int .i64 1))⟩, ⟨some 13, none, .mv (.p 90)⟩]))))
/-- impl.goodAttempts -/
def a_impl_goodAttempts : AFn := ⟨3, 91, [.tmp 6], (.seq (.reg [⟨some 3, none, .box (.t 0)⟩, ⟨some 4, none, .box (.t 1)⟩, ⟨some 6, none, .asg (.c (.bool false))⟩])
 (.seq (.seq (.reg [⟨some 11, none, .rf (.t 2)⟩, ⟨some 12, none, .len (.a 11 2)⟩, ⟨some 13, none, .mv (.c (.int .i64 0))⟩])
 (.block 0 (.loop [2, 3, 4, 11, 12, 13] [6] b_impl_goodAttempts_0)))
 (.seq (.reg [⟨some 6, none, .asg (.c (.bool true))⟩])
 .ret)))⟩
/-- impl.leaves -/
def a_impl_leaves : AFn := ⟨2, 8, [.tmp 4], (.seq (.reg [⟨some 3, none, .box (.p 1)⟩, ⟨some 4, none, .asg (.c (.bool false))⟩])
 (.seq (.reg [⟨some 5, none, .rf (.t 0)⟩, ⟨some 6, none, .mkf n_impl_leaves_1 [.t 3]⟩, ⟨some 7, none, .call n_slices_ContainsFunc_impl_Attempt_impl_Attempt [.a 5 0, .t 6]⟩, ⟨some 4, none, .asg (.p 7)⟩])
 .ret))⟩
/-- spec.cStep -/
def a_spec_cStep : AFn := ⟨5, 56, [.tmp 10], (.seq (.reg [⟨some 5, none, .box (.t 0)⟩, ⟨some 10, none, .asg (.c (.int .i64 0))⟩])
 (.seq (.reg [⟨some 13, none, .faddr 7 (.t 5)⟩, ⟨some 14, none, .load true 5 (.a 13 5)⟩, ⟨some 15, none, .mv (.p 2)⟩, ⟨some 16, none, .mv (.p 3)⟩, ⟨some 17, none, .call n_spec_mNext [.a 14 5, .t 15, .t 16]⟩, ⟨some 11, none, .asg (.p 17)⟩])
 (.seq (.seq (.reg [⟨some 18, none, .mv (.p 11)⟩, ⟨some 19, none, .bin .lss (.t 18) (.c (.int .i64 0))⟩, ⟨some 20, none, .mv (.p 19)⟩, ⟨some 21, some (20, false), .load true 12 (.t 5)⟩, ⟨some 22, some (20, false), .mv (.p 1)⟩, ⟨some 23, some (20, false), .mv (.p 11)⟩, ⟨some 24, some (20, false), .call n_spec_bCost [.a 21 5, .t 22, .t 23]⟩, ⟨some 25, some (20, false), .bin .eql (.t 24) (.c (.int .i64 0))⟩, ⟨some 26, none, .pick (.t 20) (.c (.bool true)) (.t 25)⟩])
 (.cond (.t 26) (.seq (.reg [⟨some 10, none, .asg (.c (.int .i64 0))⟩])
 .ret) .skip))
 (.seq (.seq (.reg [⟨some 27, none, .faddr 7 (.t 5)⟩, ⟨some 28, none, .load true 5 (.a 27 5)⟩, ⟨some 29, none, .mv (.p 2)⟩, ⟨some 30, none, .mv (.p 3)⟩, ⟨some 31, none, .call n_spec_mRoad [.a 28 5, .t 29, .t 30]⟩])
 (.cond (.t 31) (.seq (.reg [⟨some 32, none, .faddr 0 (.t 5)⟩, ⟨some 33, none, .faddr 4 (.a 32 5)⟩, ⟨some 34, none, .load false 1 (.a 33 5)⟩, ⟨some 35, none, .mv (.p 4)⟩, ⟨some 36, none, .call n_spec_csWeather [.t 35, .c (.bool true)]⟩, ⟨some 37, none, .bin .add (.a 34 5) (.t 36)⟩, ⟨some 10, none, .asg (.p 37)⟩])
 .ret) .skip))
 (.seq (.reg [⟨some 38, none, .load true 12 (.t 5)⟩, ⟨some 39, none, .mv (.p 1)⟩, ⟨some 40, none, .mv (.p 11)⟩, ⟨some 41, none, .call n_spec_bCost [.a 38 5, .t 39, .t 40]⟩, ⟨some 42, none, .mv (.p 4)⟩, ⟨some 43, none, .call n_spec_csWeather [.t 42, .c (.bool false)]⟩, ⟨some 44, none, .bin .add (.t 41) (.t 43)⟩, ⟨some 12, none, .asg (.p 44)⟩])
 (.seq (.seq (.reg [⟨some 45, none, .faddr 7 (.t 5)⟩, ⟨some 46, none, .load true 5 (.a 45 5)⟩, ⟨some 47, none, .mv (.p 2)⟩, ⟨some 48, none, .mv (.p 3)⟩, ⟨some 49, none, .call n_spec_mRiver [.a 46 5, .t 47, .t 48]⟩])
 (.cond (.t 49) (.reg [⟨some 50, none, .mv (.p 12)⟩, ⟨some 51, none, .faddr 0 (.t 5)⟩, ⟨some 52, none, .faddr 3 (.a 51 5)⟩, ⟨some 53, none, .load false 1 (.a 52 5)⟩, ⟨some 54, none, .bin .add (.t 50) (.a 53 5)⟩, ⟨some 12, none, .asg (.p 54)⟩]) .skip))
 (.seq (.reg [⟨some 55, none, .mv (.p 12)⟩, ⟨some 10, none, .asg (.p 55)⟩])
 .ret)))))))⟩
/-- spec.fZone -/
def a_spec_fZone : AFn := ⟨5, 44, [.tmp 10], (.seq (.reg [⟨some 5, none, .box (.t 0)⟩, ⟨some 6, none, .box (.t 1)⟩, ⟨some 10, none, .asg (.c (.int .i64 0))⟩])
 (.seq (.reg [⟨some 13, none, .faddr 2 (.t 6)⟩, ⟨some 14, none, .load false 1 (.a 13 6)⟩, ⟨some 15, none, .mv (.p 2)⟩, ⟨some 16, none, .iaddr 4 (.a 14 6) (.t 15)⟩, ⟨some 17, none, .load true 4 (.a 16 6)⟩, ⟨some 11, none, .alloc [.int .i64 0, .int .i64 0, .int .i64 0, .int .i64 0]⟩, ⟨none, none, .store 4 (.t 11) (.a 17 6)⟩])
 (.seq (.reg [⟨some 18, none, .load true 12 (.t 5)⟩, ⟨some 19, none, .load true 3 (.t 6)⟩, ⟨some 20, none, .faddr 2 (.t 11)⟩, ⟨some 21, none, .load false 1 (.a 20 11)⟩, ⟨some 22, none, .faddr 0 (.t 11)⟩, ⟨some 23, none, .load false 1 (.a 22 11)⟩, ⟨some 24, none, .bin .sub (.c (.int .i64 1)) (.a 23 11)⟩, ⟨some 25, none, .call n_spec_zIn [.a 18 5, .a 19 6, .a 21 11, .t 24]⟩, ⟨some 12, none, .asg (.p 25)⟩])
 (.seq (.seq (.reg [⟨some 26, none, .mv (.p 12)⟩, ⟨some 27, none, .mv (.p 26)⟩, ⟨some 28, some (27, true), .mv (.p 4)⟩, ⟨some 29, some (27, true), .mv (.p 28)⟩, ⟨some 30, some (29, false), .load true 12 (.t 5)⟩, ⟨some 31, some (29, false), .load true 3 (.t 6)⟩, ⟨some 32, some (29, false), .faddr 7 (.t 5)⟩, ⟨some 33, some (29, false), .load true 5 (.a 32 5)⟩, ⟨some 34, some (29, false), .faddr 2 (.t 11)⟩, ⟨some 35, some (29, false), .load false 1 (.a 34 11)⟩, ⟨some 36, some (29, false), .mv (.p 3)⟩, ⟨some 37, some (29, false), .call n_spec_mNext [.a 33 5, .a 35 11, .t 36]⟩, ⟨some 38, some (29, false), .faddr 0 (.t 11)⟩, ⟨some 39, some (29, false), .load false 1 (.a 38 11)⟩, ⟨some 40, some (29, false), .bin .sub (.c (.int .i64 1)) (.a 39 11)⟩, ⟨some 41, some (29, false), .call n_spec_zIn [.a 30 5, .a 31 6, .t 37, .t 40]⟩, ⟨some 42, some (27, true), .pick (.t 29) (.c (.bool true)) (.t 41)⟩, ⟨some 43, none, .pick (.t 27) (.t 42) (.c (.bool false))⟩])
 (.cond (.t 43) (.seq (.reg [⟨some 10, none, .asg (.c (.int .i64 5))⟩])
 .ret) .skip))
 (.seq (.reg [⟨some 10, none, .asg (.c (.int .i64 0))⟩])
 .ret)))))⟩
/-- spec.mNext -/
def a_spec_mNext : AFn := ⟨3, 14, [.tmp 6], (.seq (.reg [⟨some 3, none, .box (.t 0)⟩, ⟨some 6, none, .asg (.c (.int .i64 0))⟩])
 (.seq (.reg [⟨some 7, none, .load true 5 (.t 3)⟩, ⟨some 8, none, .load true 5 (.t 3)⟩, ⟨some 9, none, .mv (.p 1)⟩, ⟨some 10, none, .call n_spec_mHex [.a 8 3, .t 9]⟩, ⟨some 11, none, .mv (.p 2)⟩, ⟨some 12, none, .call n_spec_hStep [.t 10, .t 11]⟩, ⟨some 13, none, .call n_spec_mIndex [.a 7 3, .t 12]⟩, ⟨some 6, none, .asg (.p 13)⟩])
 .ret))⟩
/-- impl.isPath$1 -/
def a_impl_isPath_1 : AFn := ⟨1, 6, [.tmp 2], (.seq (.reg [⟨some 2, none, .asg (.c (.bool false))⟩])
 (.seq (.reg [⟨some 3, none, .mv (.p 0)⟩, ⟨some 4, none, .call n_impl_isDirection [.t 3]⟩, ⟨some 5, none, .un .not (.t 4)⟩, ⟨some 2, none, .asg (.p 5)⟩])
 .ret))⟩
/-- impl.isDirection -/
def a_impl_isDirection : AFn := ⟨1, 5, [.tmp 2], (.seq (.reg [⟨some 2, none, .asg (.c (.bool false))⟩])
 (.seq (.reg [⟨some 3, none, .mv (.p 0)⟩, ⟨some 4, none, .call n_impl_inRange [.t 3, .c (.int .i64 0), .c (.int .i64 5)]⟩, ⟨some 2, none, .asg (.p 4)⟩])
 .ret))⟩
/-- impl.stepCost -/
def a_impl_stepCost : AFn := ⟨5, 62, [.tmp 10], (.seq (.reg [⟨some 5, none, .box (.t 0)⟩, ⟨some 10, none, .asg (.c (.int .i64 0))⟩])
 (.seq (.reg [⟨some 14, none, .faddr 7 (.t 5)⟩, ⟨some 15, none, .load true 5 (.a 14 5)⟩, ⟨some 16, none, .mv (.p 3)⟩, ⟨some 17, none, .mv (.p 4)⟩, ⟨some 18, none, .call n_impl_nextTo [.a 15 5, .t 16, .t 17]⟩, ⟨some 11, none, .asg (.p 18)⟩])
 (.seq (.seq (.reg [⟨some 19, none, .mv (.p 11)⟩, ⟨some 20, none, .bin .lss (.t 19) (.c (.int .i64 0))⟩, ⟨some 21, none, .mv (.p 20)⟩, ⟨some 22, some (21, false), .load true 12 (.t 5)⟩, ⟨some 23, some (21, false), .mv (.p 1)⟩, ⟨some 24, some (21, false), .mv (.p 11)⟩, ⟨some 25, some (21, false), .call n_impl_enterCost [.a 22 5, .t 23, .t 24]⟩, ⟨some 26, some (21, false), .bin .eql (.t 25) (.c (.int .i64 0))⟩, ⟨some 27, none, .pick (.t 21) (.c (.bool true)) (.t 26)⟩])
 (.cond (.t 27) (.seq (.reg [⟨some 10, none, .asg (.c (.int .i64 0))⟩])
 .ret) .skip))
 (.seq (.reg [⟨some 28, none, .faddr 7 (.t 5)⟩, ⟨some 29, none, .load true 5 (.a 28 5)⟩, ⟨some 30, none, .mv (.p 3)⟩, ⟨some 31, none, .mv (.p 4)⟩, ⟨some 32, none, .call n_impl_edgeOf [.a 29 5, .t 30, .t 31]⟩, ⟨some 12, none, .asg (.p 32)⟩])
 (.seq (.seq (.reg [⟨some 33, none, .faddr 7 (.t 5)⟩, ⟨some 34, none, .faddr 4 (.a 33 5)⟩, ⟨some 35, none, .load false 1 (.a 34 5)⟩, ⟨some 36, none, .mv (.p 12)⟩, ⟨some 37, none, .call n_slices_Contains_int_int [.a 35 5, .t 36]⟩])
 (.cond (.t 37) (.seq (.reg [⟨some 38, none, .faddr 0 (.t 5)⟩, ⟨some 39, none, .faddr 4 (.a 38 5)⟩, ⟨some 40, none, .load false 1 (.a 39 5)⟩, ⟨some 41, none, .mv (.p 2)⟩, ⟨some 42, none, .call n_impl_weatherCost [.t 41, .c (.bool true)]⟩, ⟨some 43, none, .bin .add (.a 40 5) (.t 42)⟩, ⟨some 10, none, .asg (.p 43)⟩])
 .ret) .skip))
 (.seq (.reg [⟨some 44, none, .load true 12 (.t 5)⟩, ⟨some 45, none, .mv (.p 1)⟩, ⟨some 46, none, .mv (.p 11)⟩, ⟨some 47, none, .call n_impl_enterCost [.a 44 5, .t 45, .t 46]⟩, ⟨some 48, none, .mv (.p 2)⟩, ⟨some 49, none, .call n_impl_weatherCost [.t 48, .c (.bool false)]⟩, ⟨some 50, none, .bin .add (.t 47) (.t 49)⟩, ⟨some 13, none, .asg (.p 50)⟩])
 (.seq (.seq (.reg [⟨some 51, none, .faddr 7 (.t 5)⟩, ⟨some 52, none, .faddr 3 (.a 51 5)⟩, ⟨some 53, none, .load false 1 (.a 52 5)⟩, ⟨some 54, none, .mv (.p 12)⟩, ⟨some 55, none, .call n_slices_Contains_int_int [.a 53 5, .t 54]⟩])
 (.cond (.t 55) (.reg [⟨some 56, none, .mv (.p 13)⟩, ⟨some 57, none, .faddr 0 (.t 5)⟩, ⟨some 58, none, .faddr 3 (.a 57 5)⟩, ⟨some 59, none, .load false 1 (.a 58 5)⟩, ⟨some 60, none, .bin .add (.t 56) (.a 59 5)⟩, ⟨some 13, none, .asg (.p 60)⟩]) .skip))
 (.seq (.reg [⟨some 61, none, .mv (.p 13)⟩, ⟨some 10, none, .asg (.p 61)⟩])
 .ret))))))))⟩
/-- impl.nextTo -/
def a_impl_nextTo : AFn := ⟨3, 14, [.tmp 6], (.seq (.reg [⟨some 3, none, .box (.t 0)⟩, ⟨some 6, none, .asg (.c (.int .i64 0))⟩])
 (.seq (.reg [⟨some 7, none, .load true 5 (.t 3)⟩, ⟨some 8, none, .load true 5 (.t 3)⟩, ⟨some 9, none, .mv (.p 1)⟩, ⟨some 10, none, .call n_impl_hexOf [.a 8 3, .t 9]⟩, ⟨some 11, none, .mv (.p 2)⟩, ⟨some 12, none, .call n_impl_stepBy [.t 10, .t 11, .c (.int .i64 1)]⟩, ⟨some 13, none, .call n_impl_indexOf [.a 7 3, .t 12]⟩, ⟨some 6, none, .asg (.p 13)⟩])
 .ret))⟩
/-- impl.zoneReason -/
def a_impl_zoneReason : AFn := ⟨5, 31, [.tmp 10], (.seq (.reg [⟨some 5, none, .box (.t 0)⟩, ⟨some 6, none, .box (.t 1)⟩, ⟨some 7, none, .box (.t 2)⟩, ⟨some 10, none, .asg (.c (.int .i64 0))⟩])
 (.seq (.reg [⟨some 12, none, .faddr 0 (.t 7)⟩, ⟨some 13, none, .load false 1 (.a 12 7)⟩, ⟨some 14, none, .bin .sub (.c (.int .i64 1)) (.a 13 7)⟩, ⟨some 11, none, .asg (.p 14)⟩])
 (.seq (.seq (.reg [⟨some 15, none, .load true 12 (.t 5)⟩, ⟨some 16, none, .load true 3 (.t 6)⟩, ⟨some 17, none, .mv (.p 11)⟩, ⟨some 18, none, .faddr 2 (.t 7)⟩, ⟨some 19, none, .load false 1 (.a 18 7)⟩, ⟨some 20, none, .call n_impl_inZone [.a 15 5, .a 16 6, .t 17, .a 19 7]⟩, ⟨some 21, none, .mv (.p 20)⟩, ⟨some 22, some (21, true), .mv (.p 4)⟩, ⟨some 23, some (21, true), .mv (.p 22)⟩, ⟨some 24, some (23, false), .load true 12 (.t 5)⟩, ⟨some 25, some (23, false), .load true 3 (.t 6)⟩, ⟨some 26, some (23, false), .mv (.p 11)⟩, ⟨some 27, some (23, false), .mv (.p 3)⟩, ⟨some 28, some (23, false), .call n_impl_inZone [.a 24 5, .a 25 6, .t 26, .t 27]⟩, ⟨some 29, some (21, true), .pick (.t 23) (.c (.bool true)) (.t 28)⟩, ⟨some 30, none, .pick (.t 21) (.t 29) (.c (.bool false))⟩])
 (.cond (.t 30) (.seq (.reg [⟨some 10, none, .asg (.c (.int .i64 5))⟩])
 .ret) .skip))
 (.seq (.reg [⟨some 10, none, .asg (.c (.int .i64 0))⟩])
 .ret))))⟩
def b_impl_pathHexes_0 : AC := (.seq (.reg [⟨some 15, none, .bin .lss (.t 14) (.t 13)⟩])
 (.seq (.cond (.t 15) .skip (.exit 0))
 (.seq (.block 1 (.seq (.reg [⟨some 16, none, .iaddr 1 (.a 12 2) (.t 14)⟩, ⟨some 17, none, .load false 1 (.a 16 2)⟩, ⟨some 10, none, .asg (.p 17)⟩])
 (.seq (.reg [⟨some 18, none, .load true 5 (.t 3)⟩, ⟨some 19, none, .mv (.p 1)⟩, ⟨some 20, none, .mv (.p 10)⟩, ⟨some 21, none, .call n_impl_nextTo [.a 18 3, .t 19, .t 20]⟩, ⟨some 1, none, .asg (.p 21)⟩])
 (.seq (.seq (.reg [⟨some 22, none, .mv (.p 1)⟩, ⟨some 23, none, .bin .lss (.t 22) (.c (.int .i64 0))⟩])
 (.cond (.t 23) (.seq (.reg [⟨some 6, none, .asg (.c (.list true 1 []))⟩, ⟨some 7, none, .asg (.c (.bool false))⟩])
 .ret) .skip))
 (.reg [⟨some 24, none, .rf (.t 8)⟩, ⟨some 25, none, .mv (.p 1)⟩, ⟨some 26, none, .bslice 1 1 [.int .i64 0] [(0, .p 25)]⟩, ⟨some 27, none, .append 1 (.a 24 8) (.t 26)⟩, ⟨some 8, none, .asg (.t 27)⟩])))))
 (.reg [⟨some 28, none, .bin .add (.t 14) (.c (.int .i64 1))⟩, ⟨some 14, none, .mv (.p 28)⟩]))))
/-- impl.pathHexes -/
def a_impl_pathHexes : AFn := ⟨3, 30, [.tmp 6, .tmp 7], (.seq (.reg [⟨some 3, none, .box (.t 0)⟩, ⟨some 6, none, .asg (.c (.list true 1 []))⟩, ⟨some 7, none, .asg (.c (.bool false))⟩])
 (.seq (.reg [⟨some 11, none, .bslice 1 0 [.int .i64 0] []⟩, ⟨some 8, none, .asg (.t 11)⟩])
 (.seq (.seq (.reg [⟨some 12, none, .rf (.t 2)⟩, ⟨some 13, none, .len (.a 12 2)⟩, ⟨some 14, none, .mv (.c (.int .i64 0))⟩])
 (.block 0 (.loop [1, 2, 3, 8, 12, 13, 14] [6, 7, 8] b_impl_pathHexes_0)))
 (.seq (.reg [⟨some 29, none, .rf (.t 8)⟩, ⟨some 6, none, .asg (.a 29 8)⟩, ⟨some 7, none, .asg (.c (.bool true))⟩])
 .ret))))⟩
/-- spec.oForm -/
def a_spec_oForm : AFn := ⟨1, 12, [.tmp 2], (.seq (.reg [⟨some 1, none, .box (.t 0)⟩, ⟨some 2, none, .asg (.c (.bool false))⟩])
 (.seq (.reg [⟨some 3, none, .faddr 0 (.t 1)⟩, ⟨some 4, none, .load false 1 (.a 3 1)⟩, ⟨some 5, none, .call n_spec_l1In [.a 4 1, .c (.int .i64 0), .c (.int .i64 1)]⟩, ⟨some 6, none, .mv (.p 5)⟩, ⟨some 7, some (6, true), .faddr 1 (.t 1)⟩, ⟨some 8, some (6, true), .load false 1 (.a 7 1)⟩, ⟨some 9, some (6, true), .len (.a 8 1)⟩, ⟨some 10, some (6, true), .bin .leq (.t 9) (.c (.int .i64 12))⟩, ⟨some 11, none, .pick (.t 6) (.t 10) (.c (.bool false))⟩, ⟨some 2, none, .asg (.p 11)⟩])
 .ret))⟩
def b_spec_oFirst_0 : AC := (.seq (.reg [⟨some 15, none, .bin .lss (.t 14) (.t 13)⟩])
 (.seq (.cond (.t 15) .skip (.exit 0))
 (.seq (.block 1 (.seq (.reg [⟨some 16, none, .mv (.p 14)⟩, ⟨some 17, none, .iaddr 3 (.a 12 5) (.t 14)⟩, ⟨some 18, none, .load true 3 (.a 17 5)⟩, ⟨some 9, none, .alloc [.int .i64 0, .list true 1 [], .int .i64 0]⟩, ⟨some 8, none, .asg (.p 16)⟩, ⟨none, none, .store 3 (.t 9) (.a 18 5)⟩])
 (.seq (.seq (.reg [⟨some 19, none, .load true 3 (.t 4)⟩, ⟨some 20, none, .faddr 0 (.t 5)⟩, ⟨some 21, none, .load false 1 (.a 20 5)⟩, ⟨some 22, none, .faddr 0 (.t 9)⟩, ⟨some 23, none, .load false 1 (.a 22 9)⟩, ⟨some 24, none, .call n_spec_oPlaced [.a 19 4, .a 21 5, .a 23 9]⟩, ⟨some 25, none, .mv (.p 24)⟩, ⟨some 26, some (25, true), .mv (.p 8)⟩, ⟨some 27, some (25, true), .bin .gtr (.t 26) (.c (.int .i64 0))⟩, ⟨some 28, none, .pick (.t 25) (.t 27) (.c (.bool false))⟩, ⟨some 29, none, .mv (.p 28)⟩, ⟨some 30, some (29, true), .faddr 1 (.t 5)⟩, ⟨some 31, some (29, true), .load false 1 (.a 30 5)⟩, ⟨some 32, some (29, true), .mv (.p 8)⟩, ⟨some 33, some (29, true), .bin .sub (.t 32) (.c (.int .i64 1))⟩, ⟨some 34, some (29, true), .iaddr 3 (.a 31 5) (.t 33)⟩, ⟨some 35, some (29, true), .faddr 0 (.a 34 5)⟩, ⟨some 36, some (29, true), .load false 1 (.a 35 5)⟩, ⟨some 37, some (29, true), .faddr 0 (.t 9)⟩, ⟨some 38, some (29, true), .load false 1 (.a 37 9)⟩, ⟨some 39, some (29, true), .bin .geq (.a 36 5) (.a 38 9)⟩, ⟨some 40, none, .pick (.t 29) (.t 39) (.c (.bool false))⟩])
 (.cond (.t 40) (.seq (.reg [⟨some 41, none, .mv (.p 8)⟩, ⟨some 6, none, .asg (.p 41)⟩, ⟨some 7, none, .asg (.c (.int .i64 2))⟩])
 .ret) .skip))
 (.seq (.reg [⟨some 42, none, .load true 12 (.t 3)⟩, ⟨some 43, none, .load true 3 (.t 4)⟩, ⟨some 44, none, .faddr 0 (.t 5)⟩, ⟨some 45, none, .load false 1 (.a 44 5)⟩, ⟨some 46, none, .load true 3 (.t 9)⟩, ⟨some 47, none, .call n_spec_oFault [.a 42 3, .a 43 4, .a 45 5, .a 46 9]⟩, ⟨some 10, none, .asg (.p 47)⟩])
 (.seq (.reg [⟨some 48, none, .mv (.p 10)⟩, ⟨some 49, none, .bin .neq (.t 48) (.c (.int .i64 0))⟩])
 (.cond (.t 49) (.seq (.reg [⟨some 50, none, .mv (.p 8)⟩, ⟨some 51, none, .mv (.p 10)⟩, ⟨some 6, none, .asg (.p 50)⟩, ⟨some 7, none, .asg (.p 51)⟩])
 .ret) .skip))))))
 (.reg [⟨some 52, none, .bin .add (.t 14) (.c (.int .i64 1))⟩, ⟨some 14, none, .mv (.p 52)⟩]))))
/-- spec.oFirst -/
def a_spec_oFirst : AFn := ⟨3, 56, [.tmp 6, .tmp 7], (.seq (.reg [⟨some 3, none, .box (.t 0)⟩, ⟨some 4, none, .box (.t 1)⟩, ⟨some 5, none, .box (.t 2)⟩, ⟨some 6, none, .asg (.c (.int .i64 0))⟩, ⟨some 7, none, .asg (.c (.int .i64 0))⟩])
 (.seq (.seq (.reg [⟨some 11, none, .faddr 1 (.t 5)⟩, ⟨some 12, none, .load false 1 (.a 11 5)⟩, ⟨some 13, none, .len (.a 12 5)⟩, ⟨some 14, none, .mv (.c (.int .i64 0))⟩])
 (.block 0 (.loop [3, 4, 5, 12, 13, 14] [5, 6, 7] b_spec_oFirst_0)))
 (.seq (.reg [⟨some 53, none, .faddr 1 (.t 5)⟩, ⟨some 54, none, .load false 1 (.a 53 5)⟩, ⟨some 55, none, .len (.a 54 5)⟩, ⟨some 6, none, .asg (.p 55)⟩, ⟨some 7, none, .asg (.c (.int .i64 0))⟩])
 .ret)))⟩
/-- impl.goodSheet -/
def a_impl_goodSheet : AFn := ⟨3, 28, [.tmp 6], (.seq (.reg [⟨some 3, none, .box (.t 0)⟩, ⟨some 4, none, .box (.t 1)⟩, ⟨some 5, none, .box (.t 2)⟩, ⟨some 6, none, .asg (.c (.bool false))⟩])
 (.seq (.seq (.reg [⟨some 9, none, .faddr 0 (.t 5)⟩, ⟨some 10, none, .load false 1 (.a 9 5)⟩, ⟨some 11, none, .call n_impl_isSide [.a 10 5]⟩, ⟨some 12, none, .un .not (.t 11)⟩, ⟨some 13, none, .mv (.p 12)⟩, ⟨some 14, some (13, false), .faddr 1 (.t 5)⟩, ⟨some 15, some (13, false), .load false 1 (.a 14 5)⟩, ⟨some 16, some (13, false), .len (.a 15 5)⟩, ⟨some 17, some (13, false), .bin .gtr (.t 16) (.c (.int .i64 12))⟩, ⟨some 18, none, .pick (.t 13) (.c (.bool true)) (.t 17)⟩])
 (.cond (.t 18) (.seq (.reg [⟨some 6, none, .asg (.c (.bool false))⟩])
 .ret) .skip))
 (.seq (.reg [⟨some 20, none, .load true 12 (.t 3)⟩, ⟨some 21, none, .load true 3 (.t 4)⟩, ⟨some 22, none, .load true 2 (.t 5)⟩, ⟨some 23, none, .call n_impl_sheetFault [.a 20 3, .a 21 4, .a 22 5]⟩, ⟨some 19, none, .mv (.t 23)⟩, ⟨some 24, none, .extract (.p 19) 0⟩, ⟨some 25, none, .extract (.p 19) 1⟩, ⟨some 7, none, .asg (.p 24)⟩, ⟨some 8, none, .asg (.p 25)⟩])
 (.seq (.reg [⟨some 26, none, .mv (.p 8)⟩, ⟨some 27, none, .bin .eql (.t 26) (.c (.int .i64 0))⟩, ⟨some 6, none, .asg (.p 27)⟩])
 .ret))))⟩
/-- laws.szTerrain -/
def a_laws_szTerrain : AFn := ⟨2, 19, [.tmp 4], (.seq (.reg [⟨some 2, none, .box (.t 0)⟩, ⟨some 4, none, .asg (.c (.int .i64 0))⟩])
 (.seq (.reg [⟨some 5, none, .mv (.p 1)⟩, ⟨some 6, none, .faddr 0 (.t 2)⟩, ⟨some 7, none, .load false 1 (.a 6 2)⟩, ⟨some 8, none, .slen (.a 7 2)⟩, ⟨some 9, none, .bin .sub (.t 5) (.t 8)⟩, ⟨some 1, none, .asg (.p 9)⟩])
 (.seq (.seq (.reg [⟨some 10, none, .mv (.p 1)⟩, ⟨some 11, none, .bin .lss (.t 10) (.c (.int .i64 0))⟩])
 (.cond (.t 11) (.seq (.reg [⟨some 4, none, .asg (.c (.int .i64 (-1)))⟩])
 .ret) .skip))
 (.seq (.reg [⟨some 12, none, .faddr 1 (.t 2)⟩, ⟨some 13, none, .load false 1 (.a 12 2)⟩, ⟨some 14, none, .mv (.p 1)⟩, ⟨some 15, none, .call n_laws_szIntS [.a 13 2, .t 14]⟩, ⟨some 1, none, .asg (.p 15)⟩])
 (.seq (.seq (.reg [⟨some 16, none, .mv (.p 1)⟩, ⟨some 17, none, .bin .lss (.t 16) (.c (.int .i64 0))⟩])
 (.cond (.t 17) (.seq (.reg [⟨some 4, none, .asg (.c (.int .i64 (-1)))⟩])
 .ret) .skip))
 (.seq (.reg [⟨some 18, none, .mv (.p 1)⟩, ⟨some 4, none, .asg (.p 18)⟩])
 .ret))))))⟩
/-- laws.szKind -/
def a_laws_szKind : AFn := ⟨2, 13, [.tmp 4], (.seq (.reg [⟨some 2, none, .box (.t 0)⟩, ⟨some 4, none, .asg (.c (.int .i64 0))⟩])
 (.seq (.reg [⟨some 5, none, .mv (.p 1)⟩, ⟨some 6, none, .faddr 0 (.t 2)⟩, ⟨some 7, none, .load false 1 (.a 6 2)⟩, ⟨some 8, none, .slen (.a 7 2)⟩, ⟨some 9, none, .bin .sub (.t 5) (.t 8)⟩, ⟨some 1, none, .asg (.p 9)⟩])
 (.seq (.seq (.reg [⟨some 10, none, .mv (.p 1)⟩, ⟨some 11, none, .bin .lss (.t 10) (.c (.int .i64 0))⟩])
 (.cond (.t 11) (.seq (.reg [⟨some 4, none, .asg (.c (.int .i64 (-1)))⟩])
 .ret) .skip))
 (.seq (.reg [⟨some 12, none, .mv (.p 1)⟩, ⟨some 4, none, .asg (.p 12)⟩])
 .ret))))⟩
def b_spec_rGood_0 : AC := (.seq (.reg [⟨some 23, none, .bin .lss (.t 22) (.t 21)⟩])
 (.seq (.cond (.t 23) .skip (.exit 0))
 (.seq (.block 1 (.seq (.reg [⟨some 24, none, .mv (.p 22)⟩, ⟨some 25, none, .iaddr 5 (.a 20 1) (.t 22)⟩, ⟨some 26, none, .load true 5 (.a 25 1)⟩, ⟨some 4, none, .alloc [.str ⟨#[]⟩, .list true 1 [], .int .i64 0, .int .i64 0, .bool false]⟩, ⟨some 3, none, .asg (.p 24)⟩, ⟨none, none, .store 5 (.t 4) (.a 26 1)⟩])
 (.seq (.reg [⟨some 27, none, .faddr 0 (.t 4)⟩, ⟨some 28, none, .load false 1 (.a 27 4)⟩, ⟨some 29, none, .call n_spec_rName [.a 28 4]⟩, ⟨some 30, none, .un .not (.t 29)⟩, ⟨some 31, none, .mv (.p 30)⟩, ⟨some 32, some (31, false), .faddr 0 (.t 1)⟩, ⟨some 33, some (31, false), .load false 1 (.a 32 1)⟩, ⟨some 34, some (31, false), .faddr 0 (.t 4)⟩, ⟨some 35, some (31, false), .load false 1 (.a 34 4)⟩, ⟨some 36, some (31, false), .call n_spec_rTerrain [.a 33 1, .a 35 4]⟩, ⟨some 37, some (31, false), .mv (.p 3)⟩, ⟨some 38, some (31, false), .bin .neq (.t 36) (.t 37)⟩, ⟨some 39, none, .pick (.t 31) (.c (.bool true)) (.t 38)⟩, ⟨some 40, none, .mv (.p 39)⟩, ⟨some 41, some (40, false), .faddr 1 (.t 4)⟩, ⟨some 42, some (40, false), .load false 1 (.a 41 4)⟩, ⟨some 43, some (40, false), .len (.a 42 4)⟩, ⟨some 44, some (40, false), .faddr 1 (.t 1)⟩, ⟨some 45, some (40, false), .load false 1 (.a 44 1)⟩, ⟨some 46, some (40, false), .len (.a 45 1)⟩, ⟨some 47, some (40, false), .bin .neq (.t 43) (.t 46)⟩, ⟨some 48, none, .pick (.t 40) (.c (.bool true)) (.t 47)⟩, ⟨some 49, none, .mv (.p 48)⟩, ⟨some 50, some (49, false), .faddr 1 (.t 4)⟩, ⟨some 51, some (49, false), .load false 1 (.a 50 4)⟩, ⟨some 52, some (49, false), .call n_spec_l1All [.a 51 4, .c (.int .i64 0), .c (.int .i64 9)]⟩, ⟨some 53, some (49, false), .un .not (.t 52)⟩, ⟨some 54, none, .pick (.t 49) (.c (.bool true)) (.t 53)⟩, ⟨some 55, none, .mv (.p 54)⟩, ⟨some 56, some (55, false), .faddr 2 (.t 4)⟩, ⟨some 57, some (55, false), .load false 1 (.a 56 4)⟩, ⟨some 58, some (55, false), .call n_spec_l1In [.a 57 4, .c (.int .i64 (-3)), .c (.int .i64 3)]⟩, ⟨some 59, some (55, false), .un .not (.t 58)⟩, ⟨some 60, none, .pick (.t 55) (.c (.bool true)) (.t 59)⟩, ⟨some 61, none, .mv (.p 60)⟩, ⟨some 62, some (61, false), .faddr 3 (.t 4)⟩, ⟨some 63, some (61, false), .load false 1 (.a 62 4)⟩, ⟨some 64, some (61, false), .call n_spec_l1In [.a 63 4, .c (.int .i64 0), .c (.int .i64 3)]⟩, ⟨some 65, some (61, false), .un .not (.t 64)⟩, ⟨some 66, none, .pick (.t 61) (.c (.bool true)) (.t 65)⟩])
 (.cond (.t 66) (.seq (.reg [⟨some 2, none, .asg (.c (.bool false))⟩])
 .ret) .skip))))
 (.reg [⟨some 67, none, .bin .add (.t 22) (.c (.int .i64 1))⟩, ⟨some 22, none, .mv (.p 67)⟩]))))
def b_spec_rGood_1 : AC := (.seq (.reg [⟨some 72, none, .bin .lss (.t 71) (.t 70)⟩])
 (.seq (.cond (.t 72) .skip (.exit 2))
 (.seq (.block 3 (.seq (.reg [⟨some 73, none, .mv (.p 71)⟩, ⟨some 74, none, .iaddr 6 (.a 69 1) (.t 71)⟩, ⟨some 75, none, .load true 6 (.a 74 1)⟩, ⟨some 6, none, .alloc [.str ⟨#[]⟩, .int .i64 0, .int .i64 0, .int .i64 0, .bool false, .int .i64 0]⟩, ⟨some 5, none, .asg (.p 73)⟩, ⟨none, none, .store 6 (.t 6) (.a 75 1)⟩])
 (.seq (.reg [⟨some 76, none, .faddr 0 (.t 6)⟩, ⟨some 77, none, .load false 1 (.a 76 6)⟩, ⟨some 78, none, .call n_spec_rName [.a 77 6]⟩, ⟨some 79, none, .un .not (.t 78)⟩, ⟨some 80, none, .mv (.p 79)⟩, ⟨some 81, some (80, false), .faddr 1 (.t 1)⟩, ⟨some 82, some (80, false), .load false 1 (.a 81 1)⟩, ⟨some 83, some (80, false), .faddr 0 (.t 6)⟩, ⟨some 84, some (80, false), .load false 1 (.a 83 6)⟩, ⟨some 85, some (80, false), .call n_spec_rKind [.a 82 1, .a 84 6]⟩, ⟨some 86, some (80, false), .mv (.p 5)⟩, ⟨some 87, some (80, false), .bin .neq (.t 85) (.t 86)⟩, ⟨some 88, none, .pick (.t 80) (.c (.bool true)) (.t 87)⟩, ⟨some 89, none, .mv (.p 88)⟩, ⟨some 90, some (89, false), .faddr 1 (.t 6)⟩, ⟨some 91, some (89, false), .load false 1 (.a 90 6)⟩, ⟨some 92, some (89, false), .call n_spec_l1In [.a 91 6, .c (.int .i64 1), .c (.int .i64 9)]⟩, ⟨some 93, some (89, false), .un .not (.t 92)⟩, ⟨some 94, none, .pick (.t 89) (.c (.bool true)) (.t 93)⟩, ⟨some 95, none, .mv (.p 94)⟩, ⟨some 96, some (95, false), .faddr 2 (.t 6)⟩, ⟨some 97, some (95, false), .load false 1 (.a 96 6)⟩, ⟨some 98, some (95, false), .call n_spec_l1In [.a 97 6, .c (.int .i64 0), .c (.int .i64 9)]⟩, ⟨some 99, some (95, false), .un .not (.t 98)⟩, ⟨some 100, none, .pick (.t 95) (.c (.bool true)) (.t 99)⟩, ⟨some 101, none, .mv (.p 100)⟩, ⟨some 102, some (101, false), .faddr 3 (.t 6)⟩, ⟨some 103, some (101, false), .load false 1 (.a 102 6)⟩, ⟨some 104, some (101, false), .call n_spec_l1In [.a 103 6, .c (.int .i64 1), .c (.int .i64 4)]⟩, ⟨some 105, some (101, false), .un .not (.t 104)⟩, ⟨some 106, none, .pick (.t 101) (.c (.bool true)) (.t 105)⟩, ⟨some 107, none, .mv (.p 106)⟩, ⟨some 108, some (107, false), .faddr 5 (.t 6)⟩, ⟨some 109, some (107, false), .load false 1 (.a 108 6)⟩, ⟨some 110, some (107, false), .call n_spec_l1In [.a 109 6, .c (.int .i64 0), .c (.int .i64 4)]⟩, ⟨some 111, some (107, false), .un .not (.t 110)⟩, ⟨some 112, none, .pick (.t 107) (.c (.bool true)) (.t 111)⟩])
 (.cond (.t 112) (.seq (.reg [⟨some 2, none, .asg (.c (.bool false))⟩])
 .ret) .skip))))
 (.reg [⟨some 113, none, .bin .add (.t 71) (.c (.int .i64 1))⟩, ⟨some 71, none, .mv (.p 113)⟩]))))
/-- spec.rGood -/
def a_spec_rGood : AFn := ⟨1, 137, [.tmp 2], (.seq (.reg [⟨some 1, none, .box (.t 0)⟩, ⟨some 2, none, .asg (.c (.bool false))⟩])
 (.seq (.seq (.reg [⟨some 7, none, .faddr 0 (.t 1)⟩, ⟨some 8, none, .load false 1 (.a 7 1)⟩, ⟨some 9, none, .len (.a 8 1)⟩, ⟨some 10, none, .call n_spec_l1In [.t 9, .c (.int .i64 1), .c (.int .i64 6)]⟩, ⟨some 11, none, .un .not (.t 10)⟩, ⟨some 12, none, .mv (.p 11)⟩, ⟨some 13, some (12, false), .faddr 1 (.t 1)⟩, ⟨some 14, some (12, false), .load false 1 (.a 13 1)⟩, ⟨some 15, some (12, false), .len (.a 14 1)⟩, ⟨some 16, some (12, false), .call n_spec_l1In [.t 15, .c (.int .i64 1), .c (.int .i64 4)]⟩, ⟨some 17, some (12, false), .un .not (.t 16)⟩, ⟨some 18, none, .pick (.t 12) (.c (.bool true)) (.t 17)⟩])
 (.cond (.t 18) (.seq (.reg [⟨some 2, none, .asg (.c (.bool false))⟩])
 .ret) .skip))
 (.seq (.seq (.reg [⟨some 19, none, .faddr 0 (.t 1)⟩, ⟨some 20, none, .load false 1 (.a 19 1)⟩, ⟨some 21, none, .len (.a 20 1)⟩, ⟨some 22, none, .mv (.c (.int .i64 0))⟩])
 (.block 0 (.loop [1, 20, 21, 22] [1, 2] b_spec_rGood_0)))
 (.seq (.seq (.reg [⟨some 68, none, .faddr 1 (.t 1)⟩, ⟨some 69, none, .load false 1 (.a 68 1)⟩, ⟨some 70, none, .len (.a 69 1)⟩, ⟨some 71, none, .mv (.c (.int .i64 0))⟩])
 (.block 2 (.loop [1, 69, 70, 71] [1, 2] b_spec_rGood_1)))
 (.seq (.reg [⟨some 114, none, .faddr 2 (.t 1)⟩, ⟨some 115, none, .load false 1 (.a 114 1)⟩, ⟨some 116, none, .call n_spec_l1In [.a 115 1, .c (.int .i64 1), .c (.int .i64 4)]⟩, ⟨some 117, none, .mv (.p 116)⟩, ⟨some 118, some (117, true), .faddr 3 (.t 1)⟩, ⟨some 119, some (117, true), .load false 1 (.a 118 1)⟩, ⟨some 120, some (117, true), .call n_spec_l1In [.a 119 1, .c (.int .i64 0), .c (.int .i64 9)]⟩, ⟨some 121, none, .pick (.t 117) (.t 120) (.c (.bool false))⟩, ⟨some 122, none, .mv (.p 121)⟩, ⟨some 123, some (122, true), .faddr 4 (.t 1)⟩, ⟨some 124, some (122, true), .load false 1 (.a 123 1)⟩, ⟨some 125, some (122, true), .call n_spec_l1In [.a 124 1, .c (.int .i64 1), .c (.int .i64 9)]⟩, ⟨some 126, none, .pick (.t 122) (.t 125) (.c (.bool false))⟩, ⟨some 127, none, .mv (.p 126)⟩, ⟨some 128, some (127, true), .faddr 5 (.t 1)⟩, ⟨some 129, some (127, true), .load false 1 (.a 128 1)⟩, ⟨some 130, some (127, true), .call n_spec_l1In [.a 129 1, .c (.int .i64 0), .c (.int .i64 20)]⟩, ⟨some 131, none, .pick (.t 127) (.t 130) (.c (.bool false))⟩, ⟨some 132, none, .mv (.p 131)⟩, ⟨some 133, some (132, true), .faddr 6 (.t 1)⟩, ⟨some 134, some (132, true), .load false 1 (.a 133 1)⟩, ⟨some 135, some (132, true), .call n_spec_l1In [.a 134 1, .c (.int .i64 1), .c (.int .i64 30)]⟩, ⟨some 136, none, .pick (.t 132) (.t 135) (.c (.bool false))⟩, ⟨some 2, none, .asg (.p 136)⟩])
 .ret)))))⟩
/-- spec.mGood -/
def a_spec_mGood : AFn := ⟨1, 36, [.tmp 2], (.seq (.reg [⟨some 1, none, .box (.t 0)⟩, ⟨some 2, none, .asg (.c (.bool false))⟩])
 (.seq (.reg [⟨some 3, none, .faddr 0 (.t 1)⟩, ⟨some 4, none, .load false 1 (.a 3 1)⟩, ⟨some 5, none, .call n_spec_l1In [.a 4 1, .c (.int .i64 1), .c (.int .i64 10)]⟩, ⟨some 6, none, .mv (.p 5)⟩, ⟨some 7, some (6, true), .faddr 1 (.t 1)⟩, ⟨some 8, some (6, true), .load false 1 (.a 7 1)⟩, ⟨some 9, some (6, true), .call n_spec_l1In [.a 8 1, .c (.int .i64 1), .c (.int .i64 10)]⟩, ⟨some 10, none, .pick (.t 6) (.t 9) (.c (.bool false))⟩, ⟨some 11, none, .mv (.p 10)⟩, ⟨some 12, some (11, true), .faddr 2 (.t 1)⟩, ⟨some 13, some (11, true), .load false 1 (.a 12 1)⟩, ⟨some 14, some (11, true), .len (.a 13 1)⟩, ⟨some 15, some (11, true), .load true 5 (.t 1)⟩, ⟨some 16, some (11, true), .call n_spec_mSize [.a 15 1]⟩, ⟨some 17, some (11, true), .bin .eql (.t 14) (.t 16)⟩, ⟨some 18, none, .pick (.t 11) (.t 17) (.c (.bool false))⟩, ⟨some 19, none, .mv (.p 18)⟩, ⟨some 20, some (19, true), .faddr 2 (.t 1)⟩, ⟨some 21, some (19, true), .load false 1 (.a 20 1)⟩, ⟨some 22, some (19, true), .call n_spec_l1All [.a 21 1, .c (.int .i64 0), .c (.int .i64 5)]⟩, ⟨some 23, none, .pick (.t 19) (.t 22) (.c (.bool false))⟩, ⟨some 24, none, .mv (.p 23)⟩, ⟨some 25, some (24, true), .load true 5 (.t 1)⟩, ⟨some 26, some (24, true), .faddr 3 (.t 1)⟩, ⟨some 27, some (24, true), .load false 1 (.a 26 1)⟩, ⟨some 28, some (24, true), .call n_spec_mEdges [.a 25 1, .a 27 1]⟩, ⟨some 29, none, .pick (.t 24) (.t 28) (.c (.bool false))⟩, ⟨some 30, none, .mv (.p 29)⟩, ⟨some 31, some (30, true), .load true 5 (.t 1)⟩, ⟨some 32, some (30, true), .faddr 4 (.t 1)⟩, ⟨some 33, some (30, true), .load false 1 (.a 32 1)⟩, ⟨some 34, some (30, true), .call n_spec_mEdges [.a 31 1, .a 33 1]⟩, ⟨some 35, none, .pick (.t 30) (.t 34) (.c (.bool false))⟩, ⟨some 2, none, .asg (.p 35)⟩])
 .ret))⟩
/-- spec.bCost -/
def a_spec_bCost : AFn := ⟨3, 14, [.tmp 6], (.seq (.reg [⟨some 3, none, .box (.t 0)⟩, ⟨some 6, none, .asg (.c (.int .i64 0))⟩])
 (.seq (.reg [⟨some 7, none, .load true 12 (.t 3)⟩, ⟨some 8, none, .mv (.p 2)⟩, ⟨some 9, none, .call n_spec_bTerrain [.a 7 3, .t 8]⟩, ⟨some 10, none, .field false 1 1 (.t 9)⟩, ⟨some 11, none, .mv (.p 1)⟩, ⟨some 12, none, .iaddr 1 (.t 10) (.t 11)⟩, ⟨some 13, none, .load false 1 (.a 12 10)⟩, ⟨some 6, none, .asg (.p 13)⟩])
 .ret))⟩
/-- laws.toTerrain -/
def a_laws_toTerrain : AFn := ⟨1, 21, [.cell 2 5 true], (.seq (.reg [⟨some 1, none, .box (.t 0)⟩, ⟨some 2, none, .alloc [.str ⟨#[]⟩, .list true 1 [], .int .i64 0, .int .i64 0, .bool false]⟩])
 (.seq (.reg [⟨some 3, none, .alloc [.str ⟨#[]⟩, .list true 1 [], .int .i64 0, .int .i64 0, .bool false]⟩])
 (.seq (.reg [⟨some 4, none, .faddr 0 (.t 1)⟩, ⟨some 5, none, .load false 1 (.a 4 1)⟩, ⟨some 6, none, .faddr 0 (.t 3)⟩, ⟨none, none, .store 1 (.a 6 3) (.p 5)⟩])
 (.seq (.reg [⟨some 7, none, .faddr 1 (.t 1)⟩, ⟨some 8, none, .load false 1 (.a 7 1)⟩, ⟨some 9, none, .call n_laws_toIntS [.a 8 1]⟩, ⟨some 10, none, .faddr 1 (.t 3)⟩, ⟨none, none, .store 1 (.a 10 3) (.t 9)⟩])
 (.seq (.reg [⟨some 11, none, .faddr 2 (.t 1)⟩, ⟨some 12, none, .load false 1 (.a 11 1)⟩, ⟨some 13, none, .faddr 2 (.t 3)⟩, ⟨none, none, .store 1 (.a 13 3) (.p 12)⟩])
 (.seq (.reg [⟨some 14, none, .faddr 3 (.t 1)⟩, ⟨some 15, none, .load false 1 (.a 14 1)⟩, ⟨some 16, none, .faddr 3 (.t 3)⟩, ⟨none, none, .store 1 (.a 16 3) (.p 15)⟩])
 (.seq (.reg [⟨some 17, none, .faddr 4 (.t 1)⟩, ⟨some 18, none, .load false 1 (.a 17 1)⟩, ⟨some 19, none, .faddr 4 (.t 3)⟩, ⟨none, none, .store 1 (.a 19 3) (.p 18)⟩])
 (.seq (.reg [⟨some 20, none, .load true 5 (.t 3)⟩, ⟨none, none, .store 5 (.t 2) (.a 20 3)⟩])
 .ret))))))))⟩
/-- laws.toKind -/
def a_laws_toKind : AFn := ⟨1, 23, [.cell 2 6 true], (.seq (.reg [⟨some 1, none, .box (.t 0)⟩, ⟨some 2, none, .alloc [.str ⟨#[]⟩, .int .i64 0, .int .i64 0, .int .i64 0, .bool false, .int .i64 0]⟩])
 (.seq (.reg [⟨some 3, none, .alloc [.str ⟨#[]⟩, .int .i64 0, .int .i64 0, .int .i64 0, .bool false, .int .i64 0]⟩])
 (.seq (.reg [⟨some 4, none, .faddr 0 (.t 1)⟩, ⟨some 5, none, .load false 1 (.a 4 1)⟩, ⟨some 6, none, .faddr 0 (.t 3)⟩, ⟨none, none, .store 1 (.a 6 3) (.p 5)⟩])
 (.seq (.reg [⟨some 7, none, .faddr 1 (.t 1)⟩, ⟨some 8, none, .load false 1 (.a 7 1)⟩, ⟨some 9, none, .faddr 1 (.t 3)⟩, ⟨none, none, .store 1 (.a 9 3) (.p 8)⟩])
 (.seq (.reg [⟨some 10, none, .faddr 2 (.t 1)⟩, ⟨some 11, none, .load false 1 (.a 10 1)⟩, ⟨some 12, none, .faddr 2 (.t 3)⟩, ⟨none, none, .store 1 (.a 12 3) (.p 11)⟩])
 (.seq (.reg [⟨some 13, none, .faddr 3 (.t 1)⟩, ⟨some 14, none, .load false 1 (.a 13 1)⟩, ⟨some 15, none, .faddr 3 (.t 3)⟩, ⟨none, none, .store 1 (.a 15 3) (.p 14)⟩])
 (.seq (.reg [⟨some 16, none, .faddr 4 (.t 1)⟩, ⟨some 17, none, .load false 1 (.a 16 1)⟩, ⟨some 18, none, .faddr 4 (.t 3)⟩, ⟨none, none, .store 1 (.a 18 3) (.p 17)⟩])
 (.seq (.reg [⟨some 19, none, .faddr 5 (.t 1)⟩, ⟨some 20, none, .load false 1 (.a 19 1)⟩, ⟨some 21, none, .faddr 5 (.t 3)⟩, ⟨none, none, .store 1 (.a 21 3) (.p 20)⟩])
 (.seq (.reg [⟨some 22, none, .load true 6 (.t 3)⟩, ⟨none, none, .store 6 (.t 2) (.a 22 3)⟩])
 .ret)))))))))⟩
def b_impl_IsRules_0 : AC := (.seq (.reg [⟨some 23, none, .bin .lss (.t 22) (.t 21)⟩])
 (.seq (.cond (.t 23) .skip (.exit 0))
 (.seq (.block 1 (.seq (.reg [⟨some 24, none, .mv (.p 22)⟩, ⟨some 25, none, .iaddr 5 (.a 20 1) (.t 22)⟩, ⟨some 26, none, .load true 5 (.a 25 1)⟩, ⟨some 4, none, .alloc [.str ⟨#[]⟩, .list true 1 [], .int .i64 0, .int .i64 0, .bool false]⟩, ⟨some 3, none, .asg (.p 24)⟩, ⟨none, none, .store 5 (.t 4) (.a 26 1)⟩])
 (.seq (.reg [⟨some 27, none, .load true 5 (.t 4)⟩, ⟨some 28, none, .faddr 1 (.t 1)⟩, ⟨some 29, none, .load false 1 (.a 28 1)⟩, ⟨some 30, none, .len (.a 29 1)⟩, ⟨some 31, none, .call n_impl_goodTerrain [.a 27 4, .t 30]⟩, ⟨some 32, none, .un .not (.t 31)⟩, ⟨some 33, none, .mv (.p 32)⟩, ⟨some 34, some (33, false), .faddr 0 (.t 1)⟩, ⟨some 35, some (33, false), .load false 1 (.a 34 1)⟩, ⟨some 36, some (33, false), .faddr 0 (.t 4)⟩, ⟨some 37, some (33, false), .load false 1 (.a 36 4)⟩, ⟨some 38, some (33, false), .call n_impl_terrainIndex [.a 35 1, .a 37 4]⟩, ⟨some 39, some (33, false), .mv (.p 3)⟩, ⟨some 40, some (33, false), .bin .neq (.t 38) (.t 39)⟩, ⟨some 41, none, .pick (.t 33) (.c (.bool true)) (.t 40)⟩])
 (.cond (.t 41) (.seq (.reg [⟨some 2, none, .asg (.c (.bool false))⟩])
 .ret) .skip))))
 (.reg [⟨some 42, none, .bin .add (.t 22) (.c (.int .i64 1))⟩, ⟨some 22, none, .mv (.p 42)⟩]))))
def b_impl_IsRules_1 : AC := (.seq (.reg [⟨some 47, none, .bin .lss (.t 46) (.t 45)⟩])
 (.seq (.cond (.t 47) .skip (.exit 2))
 (.seq (.block 3 (.seq (.reg [⟨some 48, none, .mv (.p 46)⟩, ⟨some 49, none, .iaddr 6 (.a 44 1) (.t 46)⟩, ⟨some 50, none, .load true 6 (.a 49 1)⟩, ⟨some 6, none, .alloc [.str ⟨#[]⟩, .int .i64 0, .int .i64 0, .int .i64 0, .bool false, .int .i64 0]⟩, ⟨some 5, none, .asg (.p 48)⟩, ⟨none, none, .store 6 (.t 6) (.a 50 1)⟩])
 (.seq (.reg [⟨some 51, none, .load true 6 (.t 6)⟩, ⟨some 52, none, .call n_impl_goodKind [.a 51 6]⟩, ⟨some 53, none, .un .not (.t 52)⟩, ⟨some 54, none, .mv (.p 53)⟩, ⟨some 55, some (54, false), .faddr 1 (.t 1)⟩, ⟨some 56, some (54, false), .load false 1 (.a 55 1)⟩, ⟨some 57, some (54, false), .faddr 0 (.t 6)⟩, ⟨some 58, some (54, false), .load false 1 (.a 57 6)⟩, ⟨some 59, some (54, false), .call n_impl_kindIndex [.a 56 1, .a 58 6]⟩, ⟨some 60, some (54, false), .mv (.p 5)⟩, ⟨some 61, some (54, false), .bin .neq (.t 59) (.t 60)⟩, ⟨some 62, none, .pick (.t 54) (.c (.bool true)) (.t 61)⟩])
 (.cond (.t 62) (.seq (.reg [⟨some 2, none, .asg (.c (.bool false))⟩])
 .ret) .skip))))
 (.reg [⟨some 63, none, .bin .add (.t 46) (.c (.int .i64 1))⟩, ⟨some 46, none, .mv (.p 63)⟩]))))
/-- impl.IsRules -/
def a_impl_IsRules : AFn := ⟨1, 87, [.tmp 2], (.seq (.reg [⟨some 1, none, .box (.t 0)⟩, ⟨some 2, none, .asg (.c (.bool false))⟩])
 (.seq (.seq (.reg [⟨some 7, none, .faddr 0 (.t 1)⟩, ⟨some 8, none, .load false 1 (.a 7 1)⟩, ⟨some 9, none, .len (.a 8 1)⟩, ⟨some 10, none, .call n_impl_inRange [.t 9, .c (.int .i64 1), .c (.int .i64 6)]⟩, ⟨some 11, none, .un .not (.t 10)⟩, ⟨some 12, none, .mv (.p 11)⟩, ⟨some 13, some (12, false), .faddr 1 (.t 1)⟩, ⟨some 14, some (12, false), .load false 1 (.a 13 1)⟩, ⟨some 15, some (12, false), .len (.a 14 1)⟩, ⟨some 16, some (12, false), .call n_impl_inRange [.t 15, .c (.int .i64 1), .c (.int .i64 4)]⟩, ⟨some 17, some (12, false), .un .not (.t 16)⟩, ⟨some 18, none, .pick (.t 12) (.c (.bool true)) (.t 17)⟩])
 (.cond (.t 18) (.seq (.reg [⟨some 2, none, .asg (.c (.bool false))⟩])
 .ret) .skip))
 (.seq (.seq (.reg [⟨some 19, none, .faddr 0 (.t 1)⟩, ⟨some 20, none, .load false 1 (.a 19 1)⟩, ⟨some 21, none, .len (.a 20 1)⟩, ⟨some 22, none, .mv (.c (.int .i64 0))⟩])
 (.block 0 (.loop [1, 20, 21, 22] [1, 2] b_impl_IsRules_0)))
 (.seq (.seq (.reg [⟨some 43, none, .faddr 1 (.t 1)⟩, ⟨some 44, none, .load false 1 (.a 43 1)⟩, ⟨some 45, none, .len (.a 44 1)⟩, ⟨some 46, none, .mv (.c (.int .i64 0))⟩])
 (.block 2 (.loop [1, 44, 45, 46] [1, 2] b_impl_IsRules_1)))
 (.seq (.reg [⟨some 64, none, .faddr 2 (.t 1)⟩, ⟨some 65, none, .load false 1 (.a 64 1)⟩, ⟨some 66, none, .call n_impl_inRange [.a 65 1, .c (.int .i64 1), .c (.int .i64 4)]⟩, ⟨some 67, none, .mv (.p 66)⟩, ⟨some 68, some (67, true), .faddr 3 (.t 1)⟩, ⟨some 69, some (67, true), .load false 1 (.a 68 1)⟩, ⟨some 70, some (67, true), .call n_impl_inRange [.a 69 1, .c (.int .i64 0), .c (.int .i64 9)]⟩, ⟨some 71, none, .pick (.t 67) (.t 70) (.c (.bool false))⟩, ⟨some 72, none, .mv (.p 71)⟩, ⟨some 73, some (72, true), .faddr 4 (.t 1)⟩, ⟨some 74, some (72, true), .load false 1 (.a 73 1)⟩, ⟨some 75, some (72, true), .call n_impl_inRange [.a 74 1, .c (.int .i64 1), .c (.int .i64 9)]⟩, ⟨some 76, none, .pick (.t 72) (.t 75) (.c (.bool false))⟩, ⟨some 77, none, .mv (.p 76)⟩, ⟨some 78, some (77, true), .faddr 5 (.t 1)⟩, ⟨some 79, some (77, true), .load false 1 (.a 78 1)⟩, ⟨some 80, some (77, true), .call n_impl_inRange [.a 79 1, .c (.int .i64 0), .c (.int .i64 20)]⟩, ⟨some 81, none, .pick (.t 77) (.t 80) (.c (.bool false))⟩, ⟨some 82, none, .mv (.p 81)⟩, ⟨some 83, some (82, true), .faddr 6 (.t 1)⟩, ⟨some 84, some (82, true), .load false 1 (.a 83 1)⟩, ⟨some 85, some (82, true), .call n_impl_inRange [.a 84 1, .c (.int .i64 1), .c (.int .i64 30)]⟩, ⟨some 86, none, .pick (.t 82) (.t 85) (.c (.bool false))⟩, ⟨some 2, none, .asg (.p 86)⟩])
 .ret)))))⟩
def b_impl_IsMap_0 : AC := (.seq (.reg [⟨some 34, none, .bin .lss (.t 33) (.t 32)⟩])
 (.seq (.cond (.t 34) .skip (.exit 0))
 (.seq (.block 1 (.seq (.reg [⟨some 35, none, .iaddr 1 (.a 31 1) (.t 33)⟩, ⟨some 36, none, .load false 1 (.a 35 1)⟩, ⟨some 4, none, .asg (.p 36)⟩])
 (.seq (.reg [⟨some 37, none, .mv (.p 4)⟩, ⟨some 38, none, .call n_impl_isIndex [.t 37, .c (.int .i64 6)]⟩, ⟨some 39, none, .un .not (.t 38)⟩])
 (.cond (.t 39) (.seq (.reg [⟨some 2, none, .asg (.c (.bool false))⟩])
 .ret) .skip))))
 (.reg [⟨some 40, none, .bin .add (.t 33) (.c (.int .i64 1))⟩, ⟨some 33, none, .mv (.p 40)⟩]))))
def b_impl_IsMap_1 : AC := (.seq (.reg [⟨some 57, none, .bin .lss (.t 56) (.t 55)⟩])
 (.seq (.cond (.t 57) .skip (.exit 4))
 (.seq (.block 5 (.seq (.reg [⟨some 58, none, .iaddr 1 (.a 54 6) (.t 56)⟩, ⟨some 59, none, .load false 1 (.a 58 6)⟩, ⟨some 8, none, .asg (.p 59)⟩])
 (.seq (.reg [⟨some 60, none, .load true 5 (.t 1)⟩, ⟨some 61, none, .mv (.p 8)⟩, ⟨some 62, none, .call n_impl_isEdge [.a 60 1, .t 61]⟩, ⟨some 63, none, .un .not (.t 62)⟩])
 (.cond (.t 63) (.seq (.reg [⟨some 2, none, .asg (.c (.bool false))⟩])
 .ret) .skip))))
 (.reg [⟨some 64, none, .bin .add (.t 56) (.c (.int .i64 1))⟩, ⟨some 56, none, .mv (.p 64)⟩]))))
def b_impl_IsMap_2 : AC := (.seq (.reg [⟨some 48, none, .bin .lss (.t 47) (.t 46)⟩])
 (.seq (.cond (.t 48) .skip (.exit 2))
 (.seq (.block 3 (.seq (.reg [⟨some 49, none, .iaddr 1 (.t 45) (.t 47)⟩, ⟨some 50, none, .load false 1 (.a 49 45)⟩, ⟨some 6, none, .asg (.a 50 45)⟩])
 (.seq (.seq (.reg [⟨some 51, none, .rf (.t 6)⟩, ⟨some 52, none, .call n_impl_increasing [.a 51 6]⟩, ⟨some 53, none, .un .not (.t 52)⟩])
 (.cond (.t 53) (.seq (.reg [⟨some 2, none, .asg (.c (.bool false))⟩])
 .ret) .skip))
 (.seq (.reg [⟨some 54, none, .rf (.t 6)⟩, ⟨some 55, none, .len (.a 54 6)⟩, ⟨some 56, none, .mv (.c (.int .i64 0))⟩])
 (.block 4 (.loop [1, 6, 45, 46, 47, 54, 55, 56] [1, 2, 45, 46, 47] b_impl_IsMap_1))))))
 (.reg [⟨some 65, none, .bin .add (.t 47) (.c (.int .i64 1))⟩, ⟨some 47, none, .mv (.p 65)⟩]))))
/-- impl.IsMap -/
def a_impl_IsMap : AFn := ⟨1, 66, [.tmp 2], (.seq (.reg [⟨some 1, none, .box (.t 0)⟩, ⟨some 2, none, .asg (.c (.bool false))⟩])
 (.seq (.seq (.reg [⟨some 9, none, .faddr 0 (.t 1)⟩, ⟨some 10, none, .load false 1 (.a 9 1)⟩, ⟨some 11, none, .call n_impl_inRange [.a 10 1, .c (.int .i64 1), .c (.int .i64 10)]⟩, ⟨some 12, none, .un .not (.t 11)⟩, ⟨some 13, none, .mv (.p 12)⟩, ⟨some 14, some (13, false), .faddr 1 (.t 1)⟩, ⟨some 15, some (13, false), .load false 1 (.a 14 1)⟩, ⟨some 16, some (13, false), .call n_impl_inRange [.a 15 1, .c (.int .i64 1), .c (.int .i64 10)]⟩, ⟨some 17, some (13, false), .un .not (.t 16)⟩, ⟨some 18, none, .pick (.t 13) (.c (.bool true)) (.t 17)⟩, ⟨some 19, none, .mv (.p 18)⟩, ⟨some 20, some (19, false), .faddr 2 (.t 1)⟩, ⟨some 21, some (19, false), .load false 1 (.a 20 1)⟩, ⟨some 22, some (19, false), .len (.a 21 1)⟩, ⟨some 23, some (19, false), .faddr 0 (.t 1)⟩, ⟨some 24, some (19, false), .load false 1 (.a 23 1)⟩, ⟨some 25, some (19, false), .faddr 1 (.t 1)⟩, ⟨some 26, some (19, false), .load false 1 (.a 25 1)⟩, ⟨some 27, some (19, false), .bin .mul (.a 24 1) (.a 26 1)⟩, ⟨some 28, some (19, false), .bin .neq (.t 22) (.t 27)⟩, ⟨some 29, none, .pick (.t 19) (.c (.bool true)) (.t 28)⟩])
 (.cond (.t 29) (.seq (.reg [⟨some 2, none, .asg (.c (.bool false))⟩])
 .ret) .skip))
 (.seq (.seq (.reg [⟨some 30, none, .faddr 2 (.t 1)⟩, ⟨some 31, none, .load false 1 (.a 30 1)⟩, ⟨some 32, none, .len (.a 31 1)⟩, ⟨some 33, none, .mv (.c (.int .i64 0))⟩])
 (.block 0 (.loop [1, 31, 32, 33] [1, 2] b_impl_IsMap_0)))
 (.seq (.seq (.reg [⟨some 41, none, .faddr 3 (.t 1)⟩, ⟨some 42, none, .load false 1 (.a 41 1)⟩, ⟨some 43, none, .faddr 4 (.t 1)⟩, ⟨some 44, none, .load false 1 (.a 43 1)⟩, ⟨some 45, none, .bslice 1 2 [.list true 1 []] [(0, .a 42 1), (1, .a 44 1)]⟩, ⟨some 46, none, .len (.t 45)⟩, ⟨some 47, none, .mv (.c (.int .i64 0))⟩])
 (.block 2 (.loop [1, 45, 46, 47] [2] b_impl_IsMap_2)))
 (.seq (.reg [⟨some 2, none, .asg (.c (.bool true))⟩])
 .ret)))))⟩
/-- impl.IsBoard$1 -/
def a_impl_IsBoard_1 : AFn := ⟨2, 10, [.tmp 3], (.seq (.reg [⟨some 3, none, .asg (.c (.bool false))⟩])
 (.seq (.reg [⟨some 4, none, .mv (.p 0)⟩, ⟨some 5, none, .faddr 0 (.t 1)⟩, ⟨some 6, none, .faddr 0 (.a 5 1)⟩, ⟨some 7, none, .load false 1 (.a 6 1)⟩, ⟨some 8, none, .len (.a 7 1)⟩, ⟨some 9, none, .bin .geq (.t 4) (.t 8)⟩, ⟨some 3, none, .asg (.p 9)⟩])
 .ret))⟩
/-- impl.goodUnit -/
def a_impl_goodUnit : AFn := ⟨2, 55, [.tmp 4], (.seq (.reg [⟨some 2, none, .box (.t 0)⟩, ⟨some 3, none, .box (.t 1)⟩, ⟨some 4, none, .asg (.c (.bool false))⟩])
 (.seq (.seq (.reg [⟨some 5, none, .faddr 0 (.t 3)⟩, ⟨some 6, none, .load false 1 (.a 5 3)⟩, ⟨some 7, none, .call n_impl_isSide [.a 6 3]⟩, ⟨some 8, none, .un .not (.t 7)⟩, ⟨some 9, none, .mv (.p 8)⟩, ⟨some 10, some (9, false), .faddr 1 (.t 3)⟩, ⟨some 11, some (9, false), .load false 1 (.a 10 3)⟩, ⟨some 12, some (9, false), .faddr 0 (.t 2)⟩, ⟨some 13, some (9, false), .faddr 1 (.a 12 2)⟩, ⟨some 14, some (9, false), .load false 1 (.a 13 2)⟩, ⟨some 15, some (9, false), .len (.a 14 2)⟩, ⟨some 16, some (9, false), .call n_impl_isIndex [.a 11 3, .t 15]⟩, ⟨some 17, some (9, false), .un .not (.t 16)⟩, ⟨some 18, none, .pick (.t 9) (.c (.bool true)) (.t 17)⟩, ⟨some 19, none, .mv (.p 18)⟩, ⟨some 20, some (19, false), .faddr 3 (.t 3)⟩, ⟨some 21, some (19, false), .load false 1 (.a 20 3)⟩, ⟨some 22, some (19, false), .faddr 0 (.t 2)⟩, ⟨some 23, some (19, false), .faddr 1 (.a 22 2)⟩, ⟨some 24, some (19, false), .load false 1 (.a 23 2)⟩, ⟨some 25, some (19, false), .faddr 1 (.t 3)⟩, ⟨some 26, some (19, false), .load false 1 (.a 25 3)⟩, ⟨some 27, some (19, false), .iaddr 6 (.a 24 2) (.a 26 3)⟩, ⟨some 28, some (19, false), .faddr 3 (.a 27 2)⟩, ⟨some 29, some (19, false), .load false 1 (.a 28 2)⟩, ⟨some 30, some (19, false), .call n_impl_inRange [.a 21 3, .c (.int .i64 0), .a 29 2]⟩, ⟨some 31, some (19, false), .un .not (.t 30)⟩, ⟨some 32, none, .pick (.t 19) (.c (.bool true)) (.t 31)⟩])
 (.cond (.t 32) (.seq (.reg [⟨some 4, none, .asg (.c (.bool false))⟩])
 .ret) .skip))
 (.seq (.seq (.reg [⟨some 33, none, .faddr 2 (.t 3)⟩, ⟨some 34, none, .load false 1 (.a 33 3)⟩, ⟨some 35, none, .bin .eql (.a 34 3) (.c (.int .i64 (-1)))⟩])
 (.cond (.t 35) (.seq (.reg [⟨some 4, none, .asg (.c (.bool true))⟩])
 .ret) .skip))
 (.seq (.reg [⟨some 36, none, .faddr 3 (.t 3)⟩, ⟨some 37, none, .load false 1 (.a 36 3)⟩, ⟨some 38, none, .bin .gtr (.a 37 3) (.c (.int .i64 0))⟩, ⟨some 39, none, .mv (.p 38)⟩, ⟨some 40, some (39, true), .faddr 2 (.t 3)⟩, ⟨some 41, some (39, true), .load false 1 (.a 40 3)⟩, ⟨some 42, some (39, true), .load true 12 (.t 2)⟩, ⟨some 43, some (39, true), .call n_impl_sizeOf [.a 42 2]⟩, ⟨some 44, some (39, true), .call n_impl_isIndex [.a 41 3, .t 43]⟩, ⟨some 45, none, .pick (.t 39) (.t 44) (.c (.bool false))⟩, ⟨some 46, none, .mv (.p 45)⟩, ⟨some 47, some (46, true), .load true 12 (.t 2)⟩, ⟨some 48, some (46, true), .faddr 1 (.t 3)⟩, ⟨some 49, some (46, true), .load false 1 (.a 48 3)⟩, ⟨some 50, some (46, true), .faddr 2 (.t 3)⟩, ⟨some 51, some (46, true), .load false 1 (.a 50 3)⟩, ⟨some 52, some (46, true), .call n_impl_enterCost [.a 47 2, .a 49 3, .a 51 3]⟩, ⟨some 53, some (46, true), .bin .neq (.t 52) (.c (.int .i64 0))⟩, ⟨some 54, none, .pick (.t 46) (.t 53) (.c (.bool false))⟩, ⟨some 4, none, .asg (.p 54)⟩])
 .ret))))⟩
def b_impl_directionOn_0 : AC := (.seq (.reg [⟨some 9, none, .bin .lss (.t 8) (.c (.int .i64 6))⟩])
 (.seq (.cond (.t 9) .skip (.exit 0))
 (.seq (.block 1 (.seq (.reg [⟨some 10, none, .mv (.p 8)⟩, ⟨some 7, none, .asg (.p 10)⟩])
 (.seq (.reg [⟨some 11, none, .load true 5 (.t 3)⟩, ⟨some 12, none, .mv (.p 1)⟩, ⟨some 13, none, .mv (.p 7)⟩, ⟨some 14, none, .call n_impl_nextTo [.a 11 3, .t 12, .t 13]⟩, ⟨some 15, none, .mv (.p 2)⟩, ⟨some 16, none, .bin .eql (.t 14) (.t 15)⟩])
 (.cond (.t 16) (.seq (.reg [⟨some 17, none, .mv (.p 7)⟩, ⟨some 6, none, .asg (.p 17)⟩])
 .ret) .skip))))
 (.reg [⟨some 18, none, .bin .add (.t 8) (.c (.int .i64 1))⟩, ⟨some 8, none, .mv (.p 18)⟩]))))
/-- impl.directionOn -/
def a_impl_directionOn : AFn := ⟨3, 19, [.tmp 6], (.seq (.reg [⟨some 3, none, .box (.t 0)⟩, ⟨some 6, none, .asg (.c (.int .i64 0))⟩])
 (.seq (.seq (.reg [⟨some 8, none, .mv (.c (.int .i64 0))⟩])
 (.block 0 (.loop [1, 2, 3, 8] [6] b_impl_directionOn_0)))
 (.seq (.reg [⟨some 6, none, .asg (.c (.int .i64 (-1)))⟩])
 .ret)))⟩
/-- laws.eqTerrain -/
def a_laws_eqTerrain : AFn := ⟨2, 31, [.tmp 4], (.seq (.reg [⟨some 2, none, .box (.t 0)⟩, ⟨some 3, none, .box (.t 1)⟩, ⟨some 4, none, .asg (.c (.bool false))⟩])
 (.seq (.seq (.reg [⟨some 5, none, .faddr 0 (.t 2)⟩, ⟨some 6, none, .load false 1 (.a 5 2)⟩, ⟨some 7, none, .faddr 0 (.t 3)⟩, ⟨some 8, none, .load false 1 (.a 7 3)⟩, ⟨some 9, none, .bin .neq (.a 6 2) (.a 8 3)⟩])
 (.cond (.t 9) (.seq (.reg [⟨some 4, none, .asg (.c (.bool false))⟩])
 .ret) .skip))
 (.seq (.seq (.reg [⟨some 10, none, .faddr 1 (.t 2)⟩, ⟨some 11, none, .load false 1 (.a 10 2)⟩, ⟨some 12, none, .faddr 1 (.t 3)⟩, ⟨some 13, none, .load false 1 (.a 12 3)⟩, ⟨some 14, none, .call n_laws_eqIntS [.a 11 2, .a 13 3]⟩, ⟨some 15, none, .un .not (.t 14)⟩])
 (.cond (.t 15) (.seq (.reg [⟨some 4, none, .asg (.c (.bool false))⟩])
 .ret) .skip))
 (.seq (.seq (.reg [⟨some 16, none, .faddr 2 (.t 2)⟩, ⟨some 17, none, .load false 1 (.a 16 2)⟩, ⟨some 18, none, .faddr 2 (.t 3)⟩, ⟨some 19, none, .load false 1 (.a 18 3)⟩, ⟨some 20, none, .bin .neq (.a 17 2) (.a 19 3)⟩])
 (.cond (.t 20) (.seq (.reg [⟨some 4, none, .asg (.c (.bool false))⟩])
 .ret) .skip))
 (.seq (.seq (.reg [⟨some 21, none, .faddr 3 (.t 2)⟩, ⟨some 22, none, .load false 1 (.a 21 2)⟩, ⟨some 23, none, .faddr 3 (.t 3)⟩, ⟨some 24, none, .load false 1 (.a 23 3)⟩, ⟨some 25, none, .bin .neq (.a 22 2) (.a 24 3)⟩])
 (.cond (.t 25) (.seq (.reg [⟨some 4, none, .asg (.c (.bool false))⟩])
 .ret) .skip))
 (.seq (.seq (.reg [⟨some 26, none, .faddr 4 (.t 2)⟩, ⟨some 27, none, .load false 1 (.a 26 2)⟩, ⟨some 28, none, .faddr 4 (.t 3)⟩, ⟨some 29, none, .load false 1 (.a 28 3)⟩, ⟨some 30, none, .beq true (.a 27 2) (.a 29 3)⟩])
 (.cond (.t 30) (.seq (.reg [⟨some 4, none, .asg (.c (.bool false))⟩])
 .ret) .skip))
 (.seq (.reg [⟨some 4, none, .asg (.c (.bool true))⟩])
 .ret)))))))⟩
/-- laws.eqKind -/
def a_laws_eqKind : AFn := ⟨2, 35, [.tmp 4], (.seq (.reg [⟨some 2, none, .box (.t 0)⟩, ⟨some 3, none, .box (.t 1)⟩, ⟨some 4, none, .asg (.c (.bool false))⟩])
 (.seq (.seq (.reg [⟨some 5, none, .faddr 0 (.t 2)⟩, ⟨some 6, none, .load false 1 (.a 5 2)⟩, ⟨some 7, none, .faddr 0 (.t 3)⟩, ⟨some 8, none, .load false 1 (.a 7 3)⟩, ⟨some 9, none, .bin .neq (.a 6 2) (.a 8 3)⟩])
 (.cond (.t 9) (.seq (.reg [⟨some 4, none, .asg (.c (.bool false))⟩])
 .ret) .skip))
 (.seq (.seq (.reg [⟨some 10, none, .faddr 1 (.t 2)⟩, ⟨some 11, none, .load false 1 (.a 10 2)⟩, ⟨some 12, none, .faddr 1 (.t 3)⟩, ⟨some 13, none, .load false 1 (.a 12 3)⟩, ⟨some 14, none, .bin .neq (.a 11 2) (.a 13 3)⟩])
 (.cond (.t 14) (.seq (.reg [⟨some 4, none, .asg (.c (.bool false))⟩])
 .ret) .skip))
 (.seq (.seq (.reg [⟨some 15, none, .faddr 2 (.t 2)⟩, ⟨some 16, none, .load false 1 (.a 15 2)⟩, ⟨some 17, none, .faddr 2 (.t 3)⟩, ⟨some 18, none, .load false 1 (.a 17 3)⟩, ⟨some 19, none, .bin .neq (.a 16 2) (.a 18 3)⟩])
 (.cond (.t 19) (.seq (.reg [⟨some 4, none, .asg (.c (.bool false))⟩])
 .ret) .skip))
 (.seq (.seq (.reg [⟨some 20, none, .faddr 3 (.t 2)⟩, ⟨some 21, none, .load false 1 (.a 20 2)⟩, ⟨some 22, none, .faddr 3 (.t 3)⟩, ⟨some 23, none, .load false 1 (.a 22 3)⟩, ⟨some 24, none, .bin .neq (.a 21 2) (.a 23 3)⟩])
 (.cond (.t 24) (.seq (.reg [⟨some 4, none, .asg (.c (.bool false))⟩])
 .ret) .skip))
 (.seq (.seq (.reg [⟨some 25, none, .faddr 4 (.t 2)⟩, ⟨some 26, none, .load false 1 (.a 25 2)⟩, ⟨some 27, none, .faddr 4 (.t 3)⟩, ⟨some 28, none, .load false 1 (.a 27 3)⟩, ⟨some 29, none, .beq true (.a 26 2) (.a 28 3)⟩])
 (.cond (.t 29) (.seq (.reg [⟨some 4, none, .asg (.c (.bool false))⟩])
 .ret) .skip))
 (.seq (.seq (.reg [⟨some 30, none, .faddr 5 (.t 2)⟩, ⟨some 31, none, .load false 1 (.a 30 2)⟩, ⟨some 32, none, .faddr 5 (.t 3)⟩, ⟨some 33, none, .load false 1 (.a 32 3)⟩, ⟨some 34, none, .bin .neq (.a 31 2) (.a 33 3)⟩])
 (.cond (.t 34) (.seq (.reg [⟨some 4, none, .asg (.c (.bool false))⟩])
 .ret) .skip))
 (.seq (.reg [⟨some 4, none, .asg (.c (.bool true))⟩])
 .ret))))))))⟩
def b_laws_markText_0 : AC := (.seq (.seq (.reg [⟨some 6, none, .mv (.p 0)⟩, ⟨some 7, none, .bin .gtr (.t 6) (.c (.int .i64 0))⟩])
 (.cond (.t 7) .skip (.exit 0)))
 (.block 1 (.seq (.reg [⟨some 8, none, .mv (.p 0)⟩, ⟨some 9, none, .bin .rem (.t 8) (.c (.int .i64 10))⟩, ⟨some 10, none, .bin .add (.c (.int .i64 48)) (.t 9)⟩, ⟨some 11, none, .conv .u8 (.t 10)⟩, ⟨some 12, none, .bslice 1 1 [.int .u8 0] [(0, .p 11)]⟩, ⟨some 13, none, .bstr 12⟩, ⟨some 14, none, .mv (.p 3)⟩, ⟨some 15, none, .bin .add (.t 13) (.t 14)⟩, ⟨some 3, none, .asg (.p 15)⟩])
 (.reg [⟨some 16, none, .mv (.p 0)⟩, ⟨some 17, none, .bin .quo (.t 16) (.c (.int .i64 10))⟩, ⟨some 0, none, .asg (.p 17)⟩]))))
/-- laws.markText -/
def a_laws_markText : AFn := ⟨1, 20, [.tmp 2], (.seq (.reg [⟨some 2, none, .asg (.c (.str ⟨#[]⟩))⟩])
 (.seq (.seq (.reg [⟨some 4, none, .mv (.p 0)⟩, ⟨some 5, none, .bin .leq (.t 4) (.c (.int .i64 0))⟩])
 (.cond (.t 5) (.seq (.reg [⟨some 2, none, .asg (.c (.str ⟨#[109, 48]⟩))⟩])
 .ret) .skip))
 (.seq (.reg [⟨some 3, none, .asg (.c (.str ⟨#[]⟩))⟩])
 (.seq (.block 0 (.loop [0, 3] [2, 3] b_laws_markText_0))
 (.seq (.reg [⟨some 18, none, .mv (.p 3)⟩, ⟨some 19, none, .bin .add (.c (.str ⟨#[109]⟩)) (.t 18)⟩, ⟨some 2, none, .asg (.p 19)⟩])
 .ret)))))⟩
/-- spec.gRoom -/
def a_spec_gRoom : AFn := ⟨4, 27, [.tmp 8], (.seq (.reg [⟨some 4, none, .box (.t 0)⟩, ⟨some 5, none, .box (.t 1)⟩, ⟨some 8, none, .asg (.c (.bool false))⟩])
 (.seq (.reg [⟨some 9, none, .load true 3 (.t 5)⟩, ⟨some 10, none, .mv (.p 3)⟩, ⟨some 11, none, .mv (.p 2)⟩, ⟨some 12, none, .bin .sub (.c (.int .i64 1)) (.t 11)⟩, ⟨some 13, none, .call n_spec_sAt [.a 9 5, .t 10, .t 12]⟩, ⟨some 14, none, .len (.t 13)⟩, ⟨some 15, none, .bin .eql (.t 14) (.c (.int .i64 0))⟩, ⟨some 16, none, .mv (.p 15)⟩, ⟨some 17, some (16, true), .load true 3 (.t 5)⟩, ⟨some 18, some (16, true), .mv (.p 3)⟩, ⟨some 19, some (16, true), .mv (.p 2)⟩, ⟨some 20, some (16, true), .call n_spec_sAt [.a 17 5, .t 18, .t 19]⟩, ⟨some 21, some (16, true), .len (.t 20)⟩, ⟨some 22, some (16, true), .faddr 0 (.t 4)⟩, ⟨some 23, some (16, true), .faddr 2 (.a 22 4)⟩, ⟨some 24, some (16, true), .load false 1 (.a 23 4)⟩, ⟨some 25, some (16, true), .bin .lss (.t 21) (.a 24 4)⟩, ⟨some 26, none, .pick (.t 16) (.t 25) (.c (.bool false))⟩, ⟨some 8, none, .asg (.p 26)⟩])
 .ret))⟩
def b_slices_IndexFunc_int_int_0 : AC := (.seq (.reg [⟨some 9, none, .bin .lss (.t 8) (.t 7)⟩])
 (.seq (.cond (.t 9) .skip (.exit 0))
 (.seq (.block 1 (.seq (.reg [⟨some 10, none, .mv (.p 8)⟩, ⟨some 5, none, .asg (.p 10)⟩])
 (.seq (.reg [⟨some 11, none, .rf (.t 1)⟩, ⟨some 12, none, .rf (.t 0)⟩, ⟨some 13, none, .mv (.p 5)⟩, ⟨some 14, none, .iaddr 1 (.a 12 0) (.t 13)⟩, ⟨some 15, none, .load false 1 (.a 14 0)⟩, ⟨some 16, none, .callv (.a 11 1) [.a 15 0]⟩])
 (.cond (.t 16) (.seq (.reg [⟨some 17, none, .mv (.p 5)⟩, ⟨some 4, none, .asg (.p 17)⟩])
 .ret) .skip))))
 (.reg [⟨some 18, none, .bin .add (.t 8) (.c (.int .i64 1))⟩, ⟨some 8, none, .mv (.p 18)⟩]))))
/-- slices.IndexFunc[[]int,int] -/
def a_slices_IndexFunc_int_int : AFn := ⟨2, 19, [.tmp 4], (.seq (.reg [⟨some 4, none, .asg (.c (.int .i64 0))⟩])
 (.seq (.seq (.reg [⟨some 6, none, .rf (.t 0)⟩, ⟨some 7, none, .len (.a 6 0)⟩, ⟨some 8, none, .mv (.c (.int .i64 0))⟩])
 (.block 0 (.loop [0, 1, 7, 8] [4] b_slices_IndexFunc_int_int_0)))
 (.seq (.reg [⟨some 4, none, .asg (.c (.int .i64 (-1)))⟩])
 .ret)))⟩
/-- impl.hasUnit -/
def a_impl_hasUnit : AFn := ⟨3, 17, [.tmp 6], (.seq (.reg [⟨some 3, none, .box (.t 0)⟩, ⟨some 4, none, .box (.t 1)⟩, ⟨some 6, none, .asg (.c (.bool false))⟩])
 (.seq (.reg [⟨some 7, none, .load true 12 (.t 3)⟩, ⟨some 8, none, .load true 3 (.t 4)⟩, ⟨some 9, none, .call n_impl_fits [.a 7 3, .a 8 4]⟩, ⟨some 10, none, .mv (.p 9)⟩, ⟨some 11, some (10, true), .mv (.p 2)⟩, ⟨some 12, some (10, true), .faddr 2 (.t 4)⟩, ⟨some 13, some (10, true), .load false 1 (.a 12 4)⟩, ⟨some 14, some (10, true), .len (.a 13 4)⟩, ⟨some 15, some (10, true), .call n_impl_isIndex [.t 11, .t 14]⟩, ⟨some 16, none, .pick (.t 10) (.t 15) (.c (.bool false))⟩, ⟨some 6, none, .asg (.p 16)⟩])
 .ret))⟩
/-- slices.Clone[[]impl.Unit,impl.Unit] -/
def a_slices_Clone_impl_Unit_impl_Unit : AFn := ⟨1, 8, [.tmp 2], (.seq (.reg [⟨some 2, none, .asg (.c (.list true 4 []))⟩])
 (.seq (.seq (.reg [⟨some 3, none, .rf (.t 0)⟩, ⟨some 4, none, .isnil (.a 3 0)⟩])
 (.condn 4 (.seq (.reg [⟨some 2, none, .asg (.c (.list true 4 []))⟩])
 .ret) .skip))
 (.seq (.reg [⟨some 5, none, .bslice 4 0 [.int .i64 0, .int .i64 0, .int .i64 0, .int .i64 0] []⟩, ⟨some 6, none, .rf (.t 0)⟩, ⟨some 7, none, .append 4 (.t 5) (.p 6)⟩, ⟨some 2, none, .asg (.t 7)⟩])
 .ret)))⟩
/-- impl.stackRoom -/
def a_impl_stackRoom : AFn := ⟨4, 23, [.tmp 8], (.seq (.reg [⟨some 4, none, .box (.t 0)⟩, ⟨some 5, none, .box (.t 1)⟩, ⟨some 8, none, .asg (.c (.int .i64 0))⟩])
 (.seq (.seq (.reg [⟨some 9, none, .load true 3 (.t 5)⟩, ⟨some 10, none, .mv (.p 3)⟩, ⟨some 11, none, .call n_impl_ownerOf [.a 9 5, .t 10]⟩, ⟨some 12, none, .mv (.p 2)⟩, ⟨some 13, none, .bin .sub (.c (.int .i64 1)) (.t 12)⟩, ⟨some 14, none, .bin .eql (.t 11) (.t 13)⟩])
 (.cond (.t 14) (.seq (.reg [⟨some 8, none, .asg (.c (.int .i64 0))⟩])
 .ret) .skip))
 (.seq (.reg [⟨some 15, none, .faddr 0 (.t 4)⟩, ⟨some 16, none, .faddr 2 (.a 15 4)⟩, ⟨some 17, none, .load false 1 (.a 16 4)⟩, ⟨some 18, none, .load true 3 (.t 5)⟩, ⟨some 19, none, .mv (.p 3)⟩, ⟨some 20, none, .call n_impl_unitsAt [.a 18 5, .t 19]⟩, ⟨some 21, none, .len (.t 20)⟩, ⟨some 22, none, .bin .sub (.a 17 4) (.t 21)⟩, ⟨some 8, none, .asg (.p 22)⟩])
 .ret)))⟩
/-- spec.mHex -/
def a_spec_mHex : AFn := ⟨2, 14, [.cell 4 2 true], (.seq (.reg [⟨some 2, none, .box (.t 0)⟩, ⟨some 4, none, .alloc [.int .i64 0, .int .i64 0]⟩])
 (.seq (.reg [⟨some 5, none, .mv (.p 1)⟩, ⟨some 6, none, .faddr 0 (.t 2)⟩, ⟨some 7, none, .load false 1 (.a 6 2)⟩, ⟨some 8, none, .bin .rem (.t 5) (.a 7 2)⟩, ⟨some 9, none, .mv (.p 1)⟩, ⟨some 10, none, .faddr 0 (.t 2)⟩, ⟨some 11, none, .load false 1 (.a 10 2)⟩, ⟨some 12, none, .bin .quo (.t 9) (.a 11 2)⟩, ⟨some 13, none, .build [.int .i64 0, .int .i64 0] [(0, 1, .p 8), (1, 1, .p 12)]⟩, ⟨none, none, .store 2 (.t 4) (.t 13)⟩])
 .ret))⟩
/-- impl.hexOf -/
def a_impl_hexOf : AFn := ⟨2, 14, [.cell 4 2 true], (.seq (.reg [⟨some 2, none, .box (.t 0)⟩, ⟨some 4, none, .alloc [.int .i64 0, .int .i64 0]⟩])
 (.seq (.reg [⟨some 5, none, .mv (.p 1)⟩, ⟨some 6, none, .faddr 0 (.t 2)⟩, ⟨some 7, none, .load false 1 (.a 6 2)⟩, ⟨some 8, none, .bin .rem (.t 5) (.a 7 2)⟩, ⟨some 9, none, .mv (.p 1)⟩, ⟨some 10, none, .faddr 0 (.t 2)⟩, ⟨some 11, none, .load false 1 (.a 10 2)⟩, ⟨some 12, none, .bin .quo (.t 9) (.a 11 2)⟩, ⟨some 13, none, .build [.int .i64 0, .int .i64 0] [(0, 1, .p 8), (1, 1, .p 12)]⟩, ⟨none, none, .store 2 (.t 4) (.t 13)⟩])
 .ret))⟩
/-- spec.sHex -/
def a_spec_sHex : AFn := ⟨3, 18, [.tmp 6], (.seq (.reg [⟨some 3, none, .box (.t 0)⟩, ⟨some 4, none, .box (.t 1)⟩, ⟨some 6, none, .asg (.c (.bool false))⟩])
 (.seq (.reg [⟨some 7, none, .load true 12 (.t 3)⟩, ⟨some 8, none, .load true 3 (.t 4)⟩, ⟨some 9, none, .call n_spec_sGood [.a 7 3, .a 8 4]⟩, ⟨some 10, none, .mv (.p 9)⟩, ⟨some 11, some (10, true), .mv (.p 2)⟩, ⟨some 12, some (10, true), .faddr 7 (.t 3)⟩, ⟨some 13, some (10, true), .load true 5 (.a 12 3)⟩, ⟨some 14, some (10, true), .call n_spec_mSize [.a 13 3]⟩, ⟨some 15, some (10, true), .bin .sub (.t 14) (.c (.int .i64 1))⟩, ⟨some 16, some (10, true), .call n_spec_l1In [.t 11, .c (.int .i64 0), .t 15]⟩, ⟨some 17, none, .pick (.t 10) (.t 16) (.c (.bool false))⟩, ⟨some 6, none, .asg (.p 17)⟩])
 .ret))⟩
def b_spec_l1Same_0 : AC := (.seq (.reg [⟨some 14, none, .bin .lss (.t 13) (.t 12)⟩])
 (.seq (.cond (.t 14) .skip (.exit 0))
 (.seq (.block 1 (.seq (.reg [⟨some 15, none, .mv (.p 13)⟩, ⟨some 5, none, .asg (.p 15)⟩])
 (.seq (.reg [⟨some 16, none, .rf (.t 0)⟩, ⟨some 17, none, .mv (.p 5)⟩, ⟨some 18, none, .iaddr 1 (.a 16 0) (.t 17)⟩, ⟨some 19, none, .load false 1 (.a 18 0)⟩, ⟨some 20, none, .rf (.t 1)⟩, ⟨some 21, none, .mv (.p 5)⟩, ⟨some 22, none, .iaddr 1 (.a 20 1) (.t 21)⟩, ⟨some 23, none, .load false 1 (.a 22 1)⟩, ⟨some 24, none, .bin .neq (.a 19 0) (.a 23 1)⟩])
 (.cond (.t 24) (.seq (.reg [⟨some 4, none, .asg (.c (.bool false))⟩])
 .ret) .skip))))
 (.reg [⟨some 25, none, .bin .add (.t 13) (.c (.int .i64 1))⟩, ⟨some 13, none, .mv (.p 25)⟩]))))
/-- spec.l1Same -/
def a_spec_l1Same : AFn := ⟨2, 26, [.tmp 4], (.seq (.reg [⟨some 4, none, .asg (.c (.bool false))⟩])
 (.seq (.seq (.reg [⟨some 6, none, .rf (.t 0)⟩, ⟨some 7, none, .len (.a 6 0)⟩, ⟨some 8, none, .rf (.t 1)⟩, ⟨some 9, none, .len (.a 8 1)⟩, ⟨some 10, none, .bin .neq (.t 7) (.t 9)⟩])
 (.cond (.t 10) (.seq (.reg [⟨some 4, none, .asg (.c (.bool false))⟩])
 .ret) .skip))
 (.seq (.seq (.reg [⟨some 11, none, .rf (.t 0)⟩, ⟨some 12, none, .len (.a 11 0)⟩, ⟨some 13, none, .mv (.c (.int .i64 0))⟩])
 (.block 0 (.loop [0, 1, 12, 13] [4] b_spec_l1Same_0)))
 (.seq (.reg [⟨some 4, none, .asg (.c (.bool true))⟩])
 .ret))))⟩
/-- spec.l1Most -/
def a_spec_l1Most : AFn := ⟨2, 10, [.tmp 4], (.seq (.reg [⟨some 4, none, .asg (.c (.int .i64 0))⟩])
 (.seq (.seq (.reg [⟨some 5, none, .mv (.p 0)⟩, ⟨some 6, none, .mv (.p 1)⟩, ⟨some 7, none, .bin .gtr (.t 5) (.t 6)⟩])
 (.cond (.t 7) (.seq (.reg [⟨some 8, none, .mv (.p 0)⟩, ⟨some 4, none, .asg (.p 8)⟩])
 .ret) .skip))
 (.seq (.reg [⟨some 9, none, .mv (.p 1)⟩, ⟨some 4, none, .asg (.p 9)⟩])
 .ret)))⟩
def b_slices_Equal_int_int_0 : AC := (.seq (.reg [⟨some 14, none, .bin .lss (.t 13) (.t 12)⟩])
 (.seq (.cond (.t 14) .skip (.exit 0))
 (.seq (.block 1 (.seq (.reg [⟨some 15, none, .mv (.p 13)⟩, ⟨some 5, none, .asg (.p 15)⟩])
 (.seq (.reg [⟨some 16, none, .rf (.t 0)⟩, ⟨some 17, none, .mv (.p 5)⟩, ⟨some 18, none, .iaddr 1 (.a 16 0) (.t 17)⟩, ⟨some 19, none, .load false 1 (.a 18 0)⟩, ⟨some 20, none, .rf (.t 1)⟩, ⟨some 21, none, .mv (.p 5)⟩, ⟨some 22, none, .iaddr 1 (.a 20 1) (.t 21)⟩, ⟨some 23, none, .load false 1 (.a 22 1)⟩, ⟨some 24, none, .bin .neq (.a 19 0) (.a 23 1)⟩])
 (.cond (.t 24) (.seq (.reg [⟨some 4, none, .asg (.c (.bool false))⟩])
 .ret) .skip))))
 (.reg [⟨some 25, none, .bin .add (.t 13) (.c (.int .i64 1))⟩, ⟨some 13, none, .mv (.p 25)⟩]))))
/-- slices.Equal[[]int,int] -/
def a_slices_Equal_int_int : AFn := ⟨2, 26, [.tmp 4], (.seq (.reg [⟨some 4, none, .asg (.c (.bool false))⟩])
 (.seq (.seq (.reg [⟨some 6, none, .rf (.t 0)⟩, ⟨some 7, none, .len (.a 6 0)⟩, ⟨some 8, none, .rf (.t 1)⟩, ⟨some 9, none, .len (.a 8 1)⟩, ⟨some 10, none, .bin .neq (.t 7) (.t 9)⟩])
 (.cond (.t 10) (.seq (.reg [⟨some 4, none, .asg (.c (.bool false))⟩])
 .ret) .skip))
 (.seq (.seq (.reg [⟨some 11, none, .rf (.t 0)⟩, ⟨some 12, none, .len (.a 11 0)⟩, ⟨some 13, none, .mv (.c (.int .i64 0))⟩])
 (.block 0 (.loop [0, 1, 12, 13] [4] b_slices_Equal_int_int_0)))
 (.seq (.reg [⟨some 4, none, .asg (.c (.bool true))⟩])
 .ret))))⟩
def b_spec_fTry_0 : AC := (.seq (.seq (.reg [⟨some 34, none, .mv (.p 7)⟩, ⟨some 35, none, .bin .lss (.t 34) (.c (.int .i64 6))⟩])
 (.cond (.t 35) .skip (.exit 0)))
 (.seq (.block 1 (.seq (.reg [⟨some 38, none, .faddr 7 (.t 3)⟩, ⟨some 39, none, .load true 5 (.a 38 3)⟩, ⟨some 40, none, .faddr 1 (.t 5)⟩, ⟨some 41, none, .load false 1 (.a 40 5)⟩, ⟨some 42, none, .mv (.p 7)⟩, ⟨some 43, none, .call n_spec_mNext [.a 39 3, .a 41 5, .t 42]⟩, ⟨some 8, none, .asg (.p 43)⟩])
 (.seq (.reg [⟨some 44, none, .mv (.p 8)⟩, ⟨some 45, none, .bin .geq (.t 44) (.c (.int .i64 0))⟩, ⟨some 46, none, .mv (.p 45)⟩, ⟨some 47, some (46, true), .mv (.p 8)⟩, ⟨some 48, some (46, true), .faddr 2 (.t 5)⟩, ⟨some 49, some (46, true), .load false 1 (.a 48 5)⟩, ⟨some 50, some (46, true), .bin .eql (.t 47) (.a 49 5)⟩, ⟨some 51, none, .pick (.t 46) (.t 50) (.c (.bool false))⟩])
 (.cond (.t 51) (.seq (.reg [⟨some 52, none, .load true 12 (.t 3)⟩, ⟨some 53, none, .faddr 2 (.t 4)⟩, ⟨some 54, none, .load false 1 (.a 53 4)⟩, ⟨some 55, none, .faddr 0 (.t 5)⟩, ⟨some 56, none, .load false 1 (.a 55 5)⟩, ⟨some 57, none, .iaddr 4 (.a 54 4) (.a 56 5)⟩, ⟨some 58, none, .faddr 1 (.a 57 4)⟩, ⟨some 59, none, .load false 1 (.a 58 4)⟩, ⟨some 60, none, .faddr 1 (.t 5)⟩, ⟨some 61, none, .load false 1 (.a 60 5)⟩, ⟨some 62, none, .mv (.p 7)⟩, ⟨some 63, none, .faddr 1 (.t 4)⟩, ⟨some 64, none, .load false 1 (.a 63 4)⟩, ⟨some 65, none, .call n_spec_cStep [.a 52 3, .a 59 4, .a 61 5, .t 62, .a 64 4]⟩, ⟨some 66, none, .bin .gtr (.t 65) (.c (.int .i64 0))⟩, ⟨some 6, none, .asg (.p 66)⟩])
 .ret) .skip))))
 (.reg [⟨some 36, none, .mv (.p 7)⟩, ⟨some 37, none, .bin .add (.t 36) (.c (.int .i64 1))⟩, ⟨some 7, none, .asg (.p 37)⟩])))
/-- spec.fTry -/
def a_spec_fTry : AFn := ⟨3, 67, [.tmp 6], (.seq (.reg [⟨some 3, none, .box (.t 0)⟩, ⟨some 4, none, .box (.t 1)⟩, ⟨some 5, none, .box (.t 2)⟩, ⟨some 6, none, .asg (.c (.bool false))⟩])
 (.seq (.seq (.reg [⟨some 9, none, .faddr 0 (.t 5)⟩, ⟨some 10, none, .load false 1 (.a 9 5)⟩, ⟨some 11, none, .faddr 2 (.t 4)⟩, ⟨some 12, none, .load false 1 (.a 11 4)⟩, ⟨some 13, none, .len (.a 12 4)⟩, ⟨some 14, none, .bin .sub (.t 13) (.c (.int .i64 1))⟩, ⟨some 15, none, .call n_spec_l1In [.a 10 5, .c (.int .i64 0), .t 14]⟩, ⟨some 16, none, .un .not (.t 15)⟩, ⟨some 17, none, .mv (.p 16)⟩, ⟨some 18, some (17, false), .faddr 1 (.t 5)⟩, ⟨some 19, some (17, false), .load false 1 (.a 18 5)⟩, ⟨some 20, some (17, false), .bin .lss (.a 19 5) (.c (.int .i64 0))⟩, ⟨some 21, none, .pick (.t 17) (.c (.bool true)) (.t 20)⟩, ⟨some 22, none, .mv (.p 21)⟩, ⟨some 23, some (22, false), .faddr 2 (.t 4)⟩, ⟨some 24, some (22, false), .load false 1 (.a 23 4)⟩, ⟨some 25, some (22, false), .faddr 0 (.t 5)⟩, ⟨some 26, some (22, false), .load false 1 (.a 25 5)⟩, ⟨some 27, some (22, false), .iaddr 4 (.a 24 4) (.a 26 5)⟩, ⟨some 28, some (22, false), .faddr 2 (.a 27 4)⟩, ⟨some 29, some (22, false), .load false 1 (.a 28 4)⟩, ⟨some 30, some (22, false), .faddr 1 (.t 5)⟩, ⟨some 31, some (22, false), .load false 1 (.a 30 5)⟩, ⟨some 32, some (22, false), .bin .neq (.a 29 4) (.a 31 5)⟩, ⟨some 33, none, .pick (.t 22) (.c (.bool true)) (.t 32)⟩])
 (.cond (.t 33) (.seq (.reg [⟨some 6, none, .asg (.c (.bool false))⟩])
 .ret) .skip))
 (.seq (.seq (.reg [⟨some 7, none, .asg (.c (.int .i64 0))⟩])
 (.block 0 (.loop [3, 4, 5, 7] [6] b_spec_fTry_0)))
 (.seq (.reg [⟨some 6, none, .asg (.c (.bool false))⟩])
 .ret))))⟩
def b_spec_fLeaves_0 : AC := (.seq (.reg [⟨some 10, none, .bin .lss (.t 9) (.t 8)⟩])
 (.seq (.cond (.t 10) .skip (.exit 0))
 (.seq (.block 1 (.seq (.reg [⟨some 11, none, .iaddr 3 (.a 7 0) (.t 9)⟩, ⟨some 12, none, .load true 3 (.a 11 0)⟩, ⟨some 6, none, .alloc [.int .i64 0, .int .i64 0, .int .i64 0]⟩, ⟨none, none, .store 3 (.t 6) (.a 12 0)⟩])
 (.seq (.reg [⟨some 13, none, .faddr 0 (.t 6)⟩, ⟨some 14, none, .load false 1 (.a 13 6)⟩, ⟨some 15, none, .mv (.p 1)⟩, ⟨some 16, none, .bin .eql (.a 14 6) (.t 15)⟩])
 (.cond (.t 16) (.seq (.reg [⟨some 4, none, .asg (.c (.bool true))⟩])
 .ret) .skip))))
 (.reg [⟨some 17, none, .bin .add (.t 9) (.c (.int .i64 1))⟩, ⟨some 9, none, .mv (.p 17)⟩]))))
/-- spec.fLeaves -/
def a_spec_fLeaves : AFn := ⟨2, 18, [.tmp 4], (.seq (.reg [⟨some 4, none, .asg (.c (.bool false))⟩])
 (.seq (.seq (.reg [⟨some 7, none, .rf (.t 0)⟩, ⟨some 8, none, .len (.a 7 0)⟩, ⟨some 9, none, .mv (.c (.int .i64 0))⟩])
 (.block 0 (.loop [0, 1, 7, 8, 9] [4] b_spec_fLeaves_0)))
 (.seq (.reg [⟨some 4, none, .asg (.c (.bool false))⟩])
 .ret)))⟩
/-- slices.ContainsFunc[[]impl.Attempt,impl.Attempt] -/
def a_slices_ContainsFunc_impl_Attempt_impl_Attempt : AFn := ⟨2, 9, [.tmp 4], (.seq (.reg [⟨some 4, none, .asg (.c (.bool false))⟩])
 (.seq (.reg [⟨some 5, none, .rf (.t 0)⟩, ⟨some 6, none, .rf (.t 1)⟩, ⟨some 7, none, .call n_slices_IndexFunc_impl_Attempt_impl_Attempt [.a 5 0, .a 6 1]⟩, ⟨some 8, none, .bin .geq (.t 7) (.c (.int .i64 0))⟩, ⟨some 4, none, .asg (.p 8)⟩])
 .ret))⟩
/-- impl.leaves$1 -/
def a_impl_leaves_1 : AFn := ⟨2, 8, [.tmp 3], (.seq (.reg [⟨some 2, none, .box (.t 0)⟩, ⟨some 3, none, .asg (.c (.bool false))⟩])
 (.seq (.reg [⟨some 4, none, .faddr 0 (.t 2)⟩, ⟨some 5, none, .load false 1 (.a 4 2)⟩, ⟨some 6, none, .load false 1 (.t 1)⟩, ⟨some 7, none, .bin .eql (.a 5 2) (.a 6 1)⟩, ⟨some 3, none, .asg (.p 7)⟩])
 .ret))⟩
/-- spec.mRoad -/
def a_spec_mRoad : AFn := ⟨3, 14, [.tmp 6], (.seq (.reg [⟨some 3, none, .box (.t 0)⟩, ⟨some 6, none, .asg (.c (.bool false))⟩])
 (.seq (.reg [⟨some 7, none, .faddr 4 (.t 3)⟩, ⟨some 8, none, .load false 1 (.a 7 3)⟩, ⟨some 9, none, .load true 5 (.t 3)⟩, ⟨some 10, none, .mv (.p 1)⟩, ⟨some 11, none, .mv (.p 2)⟩, ⟨some 12, none, .call n_spec_mEdge [.a 9 3, .t 10, .t 11]⟩, ⟨some 13, none, .call n_spec_l1Has [.a 8 3, .t 12]⟩, ⟨some 6, none, .asg (.p 13)⟩])
 .ret))⟩
/-- spec.csWeather -/
def a_spec_csWeather : AFn := ⟨2, 9, [.tmp 4], (.seq (.reg [⟨some 4, none, .asg (.c (.int .i64 0))⟩])
 (.seq (.seq (.reg [⟨some 5, none, .mv (.p 1)⟩])
 (.cond (.t 5) (.seq (.reg [⟨some 6, none, .mv (.p 0)⟩, ⟨some 7, none, .bin .quo (.t 6) (.c (.int .i64 2))⟩, ⟨some 4, none, .asg (.p 7)⟩])
 .ret) .skip))
 (.seq (.reg [⟨some 8, none, .mv (.p 0)⟩, ⟨some 4, none, .asg (.p 8)⟩])
 .ret)))⟩
/-- spec.mRiver -/
def a_spec_mRiver : AFn := ⟨3, 14, [.tmp 6], (.seq (.reg [⟨some 3, none, .box (.t 0)⟩, ⟨some 6, none, .asg (.c (.bool false))⟩])
 (.seq (.reg [⟨some 7, none, .faddr 3 (.t 3)⟩, ⟨some 8, none, .load false 1 (.a 7 3)⟩, ⟨some 9, none, .load true 5 (.t 3)⟩, ⟨some 10, none, .mv (.p 1)⟩, ⟨some 11, none, .mv (.p 2)⟩, ⟨some 12, none, .call n_spec_mEdge [.a 9 3, .t 10, .t 11]⟩, ⟨some 13, none, .call n_spec_l1Has [.a 8 3, .t 12]⟩, ⟨some 6, none, .asg (.p 13)⟩])
 .ret))⟩
/-- spec.zIn -/
def a_spec_zIn : AFn := ⟨4, 16, [.tmp 8], (.seq (.reg [⟨some 4, none, .box (.t 0)⟩, ⟨some 5, none, .box (.t 1)⟩, ⟨some 8, none, .asg (.c (.bool false))⟩])
 (.seq (.reg [⟨some 9, none, .load true 12 (.t 4)⟩, ⟨some 10, none, .load true 3 (.t 5)⟩, ⟨some 11, none, .mv (.p 3)⟩, ⟨some 12, none, .mv (.p 2)⟩, ⟨some 13, none, .call n_spec_zSources [.a 9 4, .a 10 5, .t 11, .t 12]⟩, ⟨some 14, none, .len (.t 13)⟩, ⟨some 15, none, .bin .gtr (.t 14) (.c (.int .i64 0))⟩, ⟨some 8, none, .asg (.p 15)⟩])
 .ret))⟩
/-- spec.mIndex -/
def a_spec_mIndex : AFn := ⟨2, 29, [.tmp 4], (.seq (.reg [⟨some 2, none, .box (.t 0)⟩, ⟨some 3, none, .box (.t 1)⟩, ⟨some 4, none, .asg (.c (.int .i64 0))⟩])
 (.seq (.seq (.reg [⟨some 5, none, .faddr 0 (.t 3)⟩, ⟨some 6, none, .load false 1 (.a 5 3)⟩, ⟨some 7, none, .faddr 0 (.t 2)⟩, ⟨some 8, none, .load false 1 (.a 7 2)⟩, ⟨some 9, none, .bin .sub (.a 8 2) (.c (.int .i64 1))⟩, ⟨some 10, none, .call n_spec_l1In [.a 6 3, .c (.int .i64 0), .t 9]⟩, ⟨some 11, none, .un .not (.t 10)⟩, ⟨some 12, none, .mv (.p 11)⟩, ⟨some 13, some (12, false), .faddr 1 (.t 3)⟩, ⟨some 14, some (12, false), .load false 1 (.a 13 3)⟩, ⟨some 15, some (12, false), .faddr 1 (.t 2)⟩, ⟨some 16, some (12, false), .load false 1 (.a 15 2)⟩, ⟨some 17, some (12, false), .bin .sub (.a 16 2) (.c (.int .i64 1))⟩, ⟨some 18, some (12, false), .call n_spec_l1In [.a 14 3, .c (.int .i64 0), .t 17]⟩, ⟨some 19, some (12, false), .un .not (.t 18)⟩, ⟨some 20, none, .pick (.t 12) (.c (.bool true)) (.t 19)⟩])
 (.cond (.t 20) (.seq (.reg [⟨some 4, none, .asg (.c (.int .i64 (-1)))⟩])
 .ret) .skip))
 (.seq (.reg [⟨some 21, none, .faddr 1 (.t 3)⟩, ⟨some 22, none, .load false 1 (.a 21 3)⟩, ⟨some 23, none, .faddr 0 (.t 2)⟩, ⟨some 24, none, .load false 1 (.a 23 2)⟩, ⟨some 25, none, .bin .mul (.a 22 3) (.a 24 2)⟩, ⟨some 26, none, .faddr 0 (.t 3)⟩, ⟨some 27, none, .load false 1 (.a 26 3)⟩, ⟨some 28, none, .bin .add (.t 25) (.a 27 3)⟩, ⟨some 4, none, .asg (.p 28)⟩])
 .ret)))⟩
/-- spec.hStep -/
def a_spec_hStep : AFn := ⟨2, 20, [.cell 4 2 true], (.seq (.reg [⟨some 2, none, .box (.t 0)⟩, ⟨some 4, none, .alloc [.int .i64 0, .int .i64 0]⟩])
 (.seq (.reg [⟨some 5, none, .faddr 0 (.t 2)⟩, ⟨some 6, none, .load false 1 (.a 5 2)⟩, ⟨some 7, none, .bslice 1 6 [.int .i64 0] [(0, .c (.int .i64 1)), (1, .c (.int .i64 1)), (2, .c (.int .i64 0)), (3, .c (.int .i64 (-1))), (4, .c (.int .i64 (-1))), (5, .c (.int .i64 0))]⟩, ⟨some 8, none, .mv (.p 1)⟩, ⟨some 9, none, .iaddr 1 (.t 7) (.t 8)⟩, ⟨some 10, none, .load false 1 (.a 9 7)⟩, ⟨some 11, none, .bin .add (.a 6 2) (.a 10 7)⟩, ⟨some 12, none, .faddr 1 (.t 2)⟩, ⟨some 13, none, .load false 1 (.a 12 2)⟩, ⟨some 14, none, .bslice 1 6 [.int .i64 0] [(0, .c (.int .i64 0)), (1, .c (.int .i64 (-1))), (2, .c (.int .i64 (-1))), (3, .c (.int .i64 0)), (4, .c (.int .i64 1)), (5, .c (.int .i64 1))]⟩, ⟨some 15, none, .mv (.p 1)⟩, ⟨some 16, none, .iaddr 1 (.t 14) (.t 15)⟩, ⟨some 17, none, .load false 1 (.a 16 14)⟩, ⟨some 18, none, .bin .add (.a 13 2) (.a 17 14)⟩, ⟨some 19, none, .build [.int .i64 0, .int .i64 0] [(0, 1, .p 11), (1, 1, .p 18)]⟩, ⟨none, none, .store 2 (.t 4) (.t 19)⟩])
 .ret))⟩
/-- impl.enterCost -/
def a_impl_enterCost : AFn := ⟨3, 14, [.tmp 6], (.seq (.reg [⟨some 3, none, .box (.t 0)⟩, ⟨some 6, none, .asg (.c (.int .i64 0))⟩])
 (.seq (.reg [⟨some 7, none, .load true 12 (.t 3)⟩, ⟨some 8, none, .mv (.p 2)⟩, ⟨some 9, none, .call n_impl_terrainAt [.a 7 3, .t 8]⟩, ⟨some 10, none, .field false 1 1 (.t 9)⟩, ⟨some 11, none, .mv (.p 1)⟩, ⟨some 12, none, .iaddr 1 (.t 10) (.t 11)⟩, ⟨some 13, none, .load false 1 (.a 12 10)⟩, ⟨some 6, none, .asg (.p 13)⟩])
 .ret))⟩
/-- impl.edgeOf -/
def a_impl_edgeOf : AFn := ⟨3, 27, [.tmp 6], (.seq (.reg [⟨some 3, none, .box (.t 0)⟩, ⟨some 6, none, .asg (.c (.int .i64 0))⟩])
 (.seq (.reg [⟨some 8, none, .load true 5 (.t 3)⟩, ⟨some 9, none, .mv (.p 1)⟩, ⟨some 10, none, .mv (.p 2)⟩, ⟨some 11, none, .call n_impl_nextTo [.a 8 3, .t 9, .t 10]⟩, ⟨some 7, none, .asg (.p 11)⟩])
 (.seq (.block 0 (.seq (.reg [⟨some 13, none, .mv (.p 7)⟩, ⟨some 14, none, .bin .lss (.t 13) (.c (.int .i64 0))⟩, ⟨some 12, none, .asg (.p 14)⟩])
 (.cond (.t 12) (.seq (.reg [⟨some 6, none, .asg (.c (.int .i64 (-1)))⟩])
 .ret) (.seq (.reg [⟨some 16, none, .mv (.p 2)⟩, ⟨some 17, none, .bin .lss (.t 16) (.c (.int .i64 3))⟩, ⟨some 15, none, .asg (.p 17)⟩])
 (.cond (.t 15) (.seq (.reg [⟨some 18, none, .mv (.p 1)⟩, ⟨some 19, none, .bin .mul (.c (.int .i64 3)) (.t 18)⟩, ⟨some 20, none, .mv (.p 2)⟩, ⟨some 21, none, .bin .add (.t 19) (.t 20)⟩, ⟨some 6, none, .asg (.p 21)⟩])
 .ret) .skip)))))
 (.seq (.reg [⟨some 22, none, .mv (.p 7)⟩, ⟨some 23, none, .bin .mul (.c (.int .i64 3)) (.t 22)⟩, ⟨some 24, none, .mv (.p 2)⟩, ⟨some 25, none, .bin .add (.t 23) (.t 24)⟩, ⟨some 26, none, .bin .sub (.t 25) (.c (.int .i64 3))⟩, ⟨some 6, none, .asg (.p 26)⟩])
 .ret))))⟩
/-- slices.Contains[[]int,int] -/
def a_slices_Contains_int_int : AFn := ⟨2, 9, [.tmp 4], (.seq (.reg [⟨some 4, none, .asg (.c (.bool false))⟩])
 (.seq (.reg [⟨some 5, none, .rf (.t 0)⟩, ⟨some 6, none, .mv (.p 1)⟩, ⟨some 7, none, .call n_slices_Index_int_int [.a 5 0, .t 6]⟩, ⟨some 8, none, .bin .geq (.t 7) (.c (.int .i64 0))⟩, ⟨some 4, none, .asg (.p 8)⟩])
 .ret))⟩
/-- impl.weatherCost -/
def a_impl_weatherCost : AFn := ⟨2, 13, [.tmp 4], (.seq (.reg [⟨some 4, none, .asg (.c (.int .i64 0))⟩])
 (.seq (.seq (.reg [⟨some 5, none, .mv (.p 1)⟩, ⟨some 6, none, .mv (.p 5)⟩, ⟨some 7, some (6, true), .mv (.p 0)⟩, ⟨some 8, some (6, true), .bin .gtr (.t 7) (.c (.int .i64 0))⟩, ⟨some 9, none, .pick (.t 6) (.t 8) (.c (.bool false))⟩])
 (.cond (.t 9) (.seq (.reg [⟨some 10, none, .mv (.p 0)⟩, ⟨some 11, none, .bin .sub (.t 10) (.c (.int .i64 1))⟩, ⟨some 4, none, .asg (.p 11)⟩])
 .ret) .skip))
 (.seq (.reg [⟨some 12, none, .mv (.p 0)⟩, ⟨some 4, none, .asg (.p 12)⟩])
 .ret)))⟩
/-- impl.indexOf -/
def a_impl_indexOf : AFn := ⟨2, 27, [.tmp 4], (.seq (.reg [⟨some 2, none, .box (.t 0)⟩, ⟨some 3, none, .box (.t 1)⟩, ⟨some 4, none, .asg (.c (.int .i64 0))⟩])
 (.seq (.seq (.reg [⟨some 5, none, .faddr 0 (.t 3)⟩, ⟨some 6, none, .load false 1 (.a 5 3)⟩, ⟨some 7, none, .faddr 0 (.t 2)⟩, ⟨some 8, none, .load false 1 (.a 7 2)⟩, ⟨some 9, none, .call n_impl_isIndex [.a 6 3, .a 8 2]⟩, ⟨some 10, none, .un .not (.t 9)⟩, ⟨some 11, none, .mv (.p 10)⟩, ⟨some 12, some (11, false), .faddr 1 (.t 3)⟩, ⟨some 13, some (11, false), .load false 1 (.a 12 3)⟩, ⟨some 14, some (11, false), .faddr 1 (.t 2)⟩, ⟨some 15, some (11, false), .load false 1 (.a 14 2)⟩, ⟨some 16, some (11, false), .call n_impl_isIndex [.a 13 3, .a 15 2]⟩, ⟨some 17, some (11, false), .un .not (.t 16)⟩, ⟨some 18, none, .pick (.t 11) (.c (.bool true)) (.t 17)⟩])
 (.cond (.t 18) (.seq (.reg [⟨some 4, none, .asg (.c (.int .i64 (-1)))⟩])
 .ret) .skip))
 (.seq (.reg [⟨some 19, none, .faddr 1 (.t 3)⟩, ⟨some 20, none, .load false 1 (.a 19 3)⟩, ⟨some 21, none, .faddr 0 (.t 2)⟩, ⟨some 22, none, .load false 1 (.a 21 2)⟩, ⟨some 23, none, .bin .mul (.a 20 3) (.a 22 2)⟩, ⟨some 24, none, .faddr 0 (.t 3)⟩, ⟨some 25, none, .load false 1 (.a 24 3)⟩, ⟨some 26, none, .bin .add (.t 23) (.a 25 3)⟩, ⟨some 4, none, .asg (.p 26)⟩])
 .ret)))⟩
/-- impl.stepBy -/
def a_impl_stepBy : AFn := ⟨3, 26, [.cell 6 2 true], (.seq (.reg [⟨some 3, none, .box (.t 0)⟩, ⟨some 6, none, .alloc [.int .i64 0, .int .i64 0]⟩])
 (.seq (.reg [⟨some 7, none, .faddr 0 (.t 3)⟩, ⟨some 8, none, .load false 1 (.a 7 3)⟩, ⟨some 9, none, .mv (.p 2)⟩, ⟨some 10, none, .mv (.p 1)⟩, ⟨some 11, none, .aaddr 6 2 (.g 0) (.t 10)⟩, ⟨some 12, none, .faddr 0 (.t 11)⟩, ⟨some 13, none, .load false 1 (.a 12 11)⟩, ⟨some 14, none, .bin .mul (.t 9) (.a 13 11)⟩, ⟨some 15, none, .bin .add (.a 8 3) (.t 14)⟩, ⟨some 16, none, .faddr 1 (.t 3)⟩, ⟨some 17, none, .load false 1 (.a 16 3)⟩, ⟨some 18, none, .mv (.p 2)⟩, ⟨some 19, none, .mv (.p 1)⟩, ⟨some 20, none, .aaddr 6 2 (.g 0) (.t 19)⟩, ⟨some 21, none, .faddr 1 (.t 20)⟩, ⟨some 22, none, .load false 1 (.a 21 20)⟩, ⟨some 23, none, .bin .mul (.t 18) (.a 22 20)⟩, ⟨some 24, none, .bin .add (.a 17 3) (.t 23)⟩, ⟨some 25, none, .build [.int .i64 0, .int .i64 0] [(0, 1, .p 15), (1, 1, .p 24)]⟩, ⟨none, none, .store 2 (.t 6) (.t 25)⟩])
 .ret))⟩
def b_impl_inZone_0 : AC := (.seq (.reg [⟨some 15, none, .bin .lss (.t 14) (.t 13)⟩])
 (.seq (.cond (.t 15) .skip (.exit 0))
 (.seq (.block 1 (.seq (.reg [⟨some 16, none, .iaddr 4 (.a 12 5) (.t 14)⟩, ⟨some 17, none, .load true 4 (.a 16 5)⟩, ⟨some 10, none, .alloc [.int .i64 0, .int .i64 0, .int .i64 0, .int .i64 0]⟩, ⟨none, none, .store 4 (.t 10) (.a 17 5)⟩])
 (.seq (.reg [⟨some 18, none, .faddr 0 (.t 10)⟩, ⟨some 19, none, .load false 1 (.a 18 10)⟩, ⟨some 20, none, .mv (.p 2)⟩, ⟨some 21, none, .bin .eql (.a 19 10) (.t 20)⟩, ⟨some 22, none, .mv (.p 21)⟩, ⟨some 23, some (22, true), .load true 12 (.t 4)⟩, ⟨some 24, some (22, true), .load true 4 (.t 10)⟩, ⟨some 25, some (22, true), .mv (.p 3)⟩, ⟨some 26, some (22, true), .call n_impl_controls [.a 23 4, .a 24 10, .t 25]⟩, ⟨some 27, none, .pick (.t 22) (.t 26) (.c (.bool false))⟩])
 (.cond (.t 27) (.seq (.reg [⟨some 8, none, .asg (.c (.bool true))⟩])
 .ret) .skip))))
 (.reg [⟨some 28, none, .bin .add (.t 14) (.c (.int .i64 1))⟩, ⟨some 14, none, .mv (.p 28)⟩]))))
/-- impl.inZone -/
def a_impl_inZone : AFn := ⟨4, 29, [.tmp 8], (.seq (.reg [⟨some 4, none, .box (.t 0)⟩, ⟨some 5, none, .box (.t 1)⟩, ⟨some 8, none, .asg (.c (.bool false))⟩])
 (.seq (.seq (.reg [⟨some 11, none, .faddr 2 (.t 5)⟩, ⟨some 12, none, .load false 1 (.a 11 5)⟩, ⟨some 13, none, .len (.a 12 5)⟩, ⟨some 14, none, .mv (.c (.int .i64 0))⟩])
 (.block 0 (.loop [2, 3, 4, 5, 12, 13, 14] [8] b_impl_inZone_0)))
 (.seq (.reg [⟨some 8, none, .asg (.c (.bool false))⟩])
 .ret)))⟩
/-- spec.oPlaced -/
def a_spec_oPlaced : AFn := ⟨3, 32, [.tmp 6], (.seq (.reg [⟨some 3, none, .box (.t 0)⟩, ⟨some 6, none, .asg (.c (.bool false))⟩])
 (.seq (.reg [⟨some 7, none, .mv (.p 2)⟩, ⟨some 8, none, .faddr 2 (.t 3)⟩, ⟨some 9, none, .load false 1 (.a 8 3)⟩, ⟨some 10, none, .len (.a 9 3)⟩, ⟨some 11, none, .bin .sub (.t 10) (.c (.int .i64 1))⟩, ⟨some 12, none, .call n_spec_l1In [.t 7, .c (.int .i64 0), .t 11]⟩, ⟨some 13, none, .mv (.p 12)⟩, ⟨some 14, some (13, true), .faddr 2 (.t 3)⟩, ⟨some 15, some (13, true), .load false 1 (.a 14 3)⟩, ⟨some 16, some (13, true), .mv (.p 2)⟩, ⟨some 17, some (13, true), .iaddr 4 (.a 15 3) (.t 16)⟩, ⟨some 18, some (13, true), .faddr 0 (.a 17 3)⟩, ⟨some 19, some (13, true), .load false 1 (.a 18 3)⟩, ⟨some 20, some (13, true), .mv (.p 1)⟩, ⟨some 21, some (13, true), .bin .eql (.a 19 3) (.t 20)⟩, ⟨some 22, none, .pick (.t 13) (.t 21) (.c (.bool false))⟩, ⟨some 23, none, .mv (.p 22)⟩, ⟨some 24, some (23, true), .faddr 2 (.t 3)⟩, ⟨some 25, some (23, true), .load false 1 (.a 24 3)⟩, ⟨some 26, some (23, true), .mv (.p 2)⟩, ⟨some 27, some (23, true), .iaddr 4 (.a 25 3) (.t 26)⟩, ⟨some 28, some (23, true), .faddr 2 (.a 27 3)⟩, ⟨some 29, some (23, true), .load false 1 (.a 28 3)⟩, ⟨some 30, some (23, true), .bin .geq (.a 29 3) (.c (.int .i64 0))⟩, ⟨some 31, none, .pick (.t 23) (.t 30) (.c (.bool false))⟩, ⟨some 6, none, .asg (.p 31)⟩])
 .ret))⟩
def b_spec_oFault_0 : AC := (.seq (.seq (.reg [⟨some 45, none, .mv (.p 10)⟩, ⟨some 46, none, .bin .lss (.t 45) (.c (.int .i64 6))⟩])
 (.cond (.t 46) .skip (.exit 1)))
 (.seq (.block 2 (.seq (.reg [⟨some 49, none, .faddr 7 (.t 4)⟩, ⟨some 50, none, .load true 5 (.a 49 4)⟩, ⟨some 51, none, .load true 12 (.t 4)⟩, ⟨some 52, none, .load true 3 (.t 5)⟩, ⟨some 53, none, .load true 3 (.t 7)⟩, ⟨some 54, none, .call n_spec_oEnd [.a 51 4, .a 52 5, .a 53 7]⟩, ⟨some 55, none, .mv (.p 10)⟩, ⟨some 56, none, .call n_spec_mNext [.a 50 4, .t 54, .t 55]⟩, ⟨some 11, none, .asg (.p 56)⟩])
 (.seq (.reg [⟨some 57, none, .mv (.p 11)⟩, ⟨some 58, none, .bin .geq (.t 57) (.c (.int .i64 0))⟩, ⟨some 59, none, .mv (.p 58)⟩, ⟨some 60, some (59, true), .mv (.p 11)⟩, ⟨some 61, some (59, true), .faddr 2 (.t 7)⟩, ⟨some 62, some (59, true), .load false 1 (.a 61 7)⟩, ⟨some 63, some (59, true), .bin .eql (.t 60) (.a 62 7)⟩, ⟨some 64, none, .pick (.t 59) (.t 63) (.c (.bool false))⟩])
 (.cond (.t 64) (.seq (.reg [⟨some 8, none, .asg (.c (.int .i64 0))⟩])
 .ret) .skip))))
 (.reg [⟨some 47, none, .mv (.p 10)⟩, ⟨some 48, none, .bin .add (.t 47) (.c (.int .i64 1))⟩, ⟨some 10, none, .asg (.p 48)⟩])))
/-- spec.oFault -/
def a_spec_oFault : AFn := ⟨4, 65, [.tmp 8], (.seq (.reg [⟨some 4, none, .box (.t 0)⟩, ⟨some 5, none, .box (.t 1)⟩, ⟨some 7, none, .box (.t 3)⟩, ⟨some 8, none, .asg (.c (.int .i64 0))⟩])
 (.seq (.seq (.reg [⟨some 12, none, .load true 3 (.t 5)⟩, ⟨some 13, none, .mv (.p 2)⟩, ⟨some 14, none, .faddr 0 (.t 7)⟩, ⟨some 15, none, .load false 1 (.a 14 7)⟩, ⟨some 16, none, .call n_spec_oPlaced [.a 12 5, .t 13, .a 15 7]⟩, ⟨some 17, none, .un .not (.t 16)⟩])
 (.cond (.t 17) (.seq (.reg [⟨some 8, none, .asg (.c (.int .i64 1))⟩])
 .ret) .skip))
 (.seq (.reg [⟨some 18, none, .load true 12 (.t 4)⟩, ⟨some 19, none, .load true 3 (.t 5)⟩, ⟨some 20, none, .load true 3 (.t 7)⟩, ⟨some 21, none, .call n_spec_oCost [.a 18 4, .a 19 5, .a 20 7]⟩, ⟨some 9, none, .asg (.p 21)⟩])
 (.seq (.block 0 (.seq (.reg [⟨some 23, none, .mv (.p 9)⟩, ⟨some 24, none, .bin .lss (.t 23) (.c (.int .i64 0))⟩, ⟨some 22, none, .asg (.p 24)⟩])
 (.cond (.t 22) (.seq (.reg [⟨some 8, none, .asg (.c (.int .i64 3))⟩])
 .ret) (.seq (.reg [⟨some 26, none, .mv (.p 9)⟩, ⟨some 27, none, .faddr 0 (.t 4)⟩, ⟨some 28, none, .faddr 1 (.a 27 4)⟩, ⟨some 29, none, .load false 1 (.a 28 4)⟩, ⟨some 30, none, .faddr 2 (.t 5)⟩, ⟨some 31, none, .load false 1 (.a 30 5)⟩, ⟨some 32, none, .faddr 0 (.t 7)⟩, ⟨some 33, none, .load false 1 (.a 32 7)⟩, ⟨some 34, none, .iaddr 4 (.a 31 5) (.a 33 7)⟩, ⟨some 35, none, .faddr 1 (.a 34 5)⟩, ⟨some 36, none, .load false 1 (.a 35 5)⟩, ⟨some 37, none, .iaddr 6 (.a 29 4) (.a 36 5)⟩, ⟨some 38, none, .faddr 2 (.a 37 4)⟩, ⟨some 39, none, .load false 1 (.a 38 4)⟩, ⟨some 40, none, .bin .gtr (.t 26) (.a 39 4)⟩, ⟨some 25, none, .asg (.p 40)⟩])
 (.cond (.t 25) (.seq (.reg [⟨some 8, none, .asg (.c (.int .i64 4))⟩])
 .ret) (.seq (.reg [⟨some 42, none, .faddr 2 (.t 7)⟩, ⟨some 43, none, .load false 1 (.a 42 7)⟩, ⟨some 44, none, .bin .eql (.a 43 7) (.c (.int .i64 (-1)))⟩, ⟨some 41, none, .asg (.p 44)⟩])
 (.cond (.t 41) (.seq (.reg [⟨some 8, none, .asg (.c (.int .i64 0))⟩])
 .ret) .skip)))))))
 (.seq (.seq (.reg [⟨some 10, none, .asg (.c (.int .i64 0))⟩])
 (.block 1 (.loop [4, 5, 7, 10] [8] b_spec_oFault_0)))
 (.seq (.reg [⟨some 8, none, .asg (.c (.int .i64 5))⟩])
 .ret))))))⟩
/-- impl.isSide -/
def a_impl_isSide : AFn := ⟨1, 5, [.tmp 2], (.seq (.reg [⟨some 2, none, .asg (.c (.bool false))⟩])
 (.seq (.reg [⟨some 3, none, .mv (.p 0)⟩, ⟨some 4, none, .call n_impl_inRange [.t 3, .c (.int .i64 0), .c (.int .i64 1)]⟩, ⟨some 2, none, .asg (.p 4)⟩])
 .ret))⟩
def b_impl_sheetFault_0 : AC := (.seq (.reg [⟨some 15, none, .bin .lss (.t 14) (.t 13)⟩])
 (.seq (.cond (.t 15) .skip (.exit 0))
 (.seq (.block 1 (.seq (.reg [⟨some 16, none, .mv (.p 14)⟩, ⟨some 17, none, .iaddr 3 (.a 12 5) (.t 14)⟩, ⟨some 18, none, .load true 3 (.a 17 5)⟩, ⟨some 9, none, .alloc [.int .i64 0, .list true 1 [], .int .i64 0]⟩, ⟨some 8, none, .asg (.p 16)⟩, ⟨none, none, .store 3 (.t 9) (.a 18 5)⟩])
 (.seq (.reg [⟨some 19, none, .load true 12 (.t 3)⟩, ⟨some 20, none, .load true 3 (.t 4)⟩, ⟨some 21, none, .faddr 0 (.t 5)⟩, ⟨some 22, none, .load false 1 (.a 21 5)⟩, ⟨some 23, none, .load true 3 (.t 9)⟩, ⟨some 24, none, .call n_impl_orderFault [.a 19 3, .a 20 4, .a 22 5, .a 23 9]⟩, ⟨some 10, none, .asg (.p 24)⟩])
 (.seq (.seq (.reg [⟨some 25, none, .mv (.p 10)⟩, ⟨some 26, none, .bin .neq (.t 25) (.c (.int .i64 1))⟩, ⟨some 27, none, .mv (.p 26)⟩, ⟨some 28, some (27, true), .mv (.p 8)⟩, ⟨some 29, some (27, true), .bin .gtr (.t 28) (.c (.int .i64 0))⟩, ⟨some 30, none, .pick (.t 27) (.t 29) (.c (.bool false))⟩, ⟨some 31, none, .mv (.p 30)⟩, ⟨some 32, some (31, true), .faddr 0 (.t 9)⟩, ⟨some 33, some (31, true), .load false 1 (.a 32 9)⟩, ⟨some 34, some (31, true), .faddr 1 (.t 5)⟩, ⟨some 35, some (31, true), .load false 1 (.a 34 5)⟩, ⟨some 36, some (31, true), .mv (.p 8)⟩, ⟨some 37, some (31, true), .bin .sub (.t 36) (.c (.int .i64 1))⟩, ⟨some 38, some (31, true), .iaddr 3 (.a 35 5) (.t 37)⟩, ⟨some 39, some (31, true), .faddr 0 (.a 38 5)⟩, ⟨some 40, some (31, true), .load false 1 (.a 39 5)⟩, ⟨some 41, some (31, true), .bin .leq (.a 33 9) (.a 40 5)⟩, ⟨some 42, none, .pick (.t 31) (.t 41) (.c (.bool false))⟩])
 (.cond (.t 42) (.reg [⟨some 10, none, .asg (.c (.int .i64 2))⟩]) .skip))
 (.seq (.reg [⟨some 43, none, .mv (.p 10)⟩, ⟨some 44, none, .bin .neq (.t 43) (.c (.int .i64 0))⟩])
 (.cond (.t 44) (.seq (.reg [⟨some 45, none, .mv (.p 8)⟩, ⟨some 46, none, .mv (.p 10)⟩, ⟨some 6, none, .asg (.p 45)⟩, ⟨some 7, none, .asg (.p 46)⟩])
 .ret) .skip))))))
 (.reg [⟨some 47, none, .bin .add (.t 14) (.c (.int .i64 1))⟩, ⟨some 14, none, .mv (.p 47)⟩]))))
/-- impl.sheetFault -/
def a_impl_sheetFault : AFn := ⟨3, 51, [.tmp 6, .tmp 7], (.seq (.reg [⟨some 3, none, .box (.t 0)⟩, ⟨some 4, none, .box (.t 1)⟩, ⟨some 5, none, .box (.t 2)⟩, ⟨some 6, none, .asg (.c (.int .i64 0))⟩, ⟨some 7, none, .asg (.c (.int .i64 0))⟩])
 (.seq (.seq (.reg [⟨some 11, none, .faddr 1 (.t 5)⟩, ⟨some 12, none, .load false 1 (.a 11 5)⟩, ⟨some 13, none, .len (.a 12 5)⟩, ⟨some 14, none, .mv (.c (.int .i64 0))⟩])
 (.block 0 (.loop [3, 4, 5, 12, 13, 14] [5, 6, 7] b_impl_sheetFault_0)))
 (.seq (.reg [⟨some 48, none, .faddr 1 (.t 5)⟩, ⟨some 49, none, .load false 1 (.a 48 5)⟩, ⟨some 50, none, .len (.a 49 5)⟩, ⟨some 6, none, .asg (.p 50)⟩, ⟨some 7, none, .asg (.c (.int .i64 0))⟩])
 .ret)))⟩
def b_spec_rName_0 : AC := (.seq (.seq (.reg [⟨some 4, none, .mv (.p 3)⟩, ⟨some 5, none, .mv (.p 0)⟩, ⟨some 6, none, .slen (.t 5)⟩, ⟨some 7, none, .bin .lss (.t 4) (.t 6)⟩])
 (.cond (.t 7) .skip (.exit 0)))
 (.seq (.block 1 (.seq (.reg [⟨some 10, none, .mv (.p 0)⟩, ⟨some 11, none, .mv (.p 3)⟩, ⟨some 12, none, .sidx (.t 10) (.t 11)⟩, ⟨some 13, none, .bin .lss (.t 12) (.c (.int .u8 97))⟩, ⟨some 14, none, .mv (.p 13)⟩, ⟨some 15, some (14, false), .mv (.p 0)⟩, ⟨some 16, some (14, false), .mv (.p 3)⟩, ⟨some 17, some (14, false), .sidx (.t 15) (.t 16)⟩, ⟨some 18, some (14, false), .bin .gtr (.t 17) (.c (.int .u8 122))⟩, ⟨some 19, none, .pick (.t 14) (.c (.bool true)) (.t 18)⟩])
 (.cond (.t 19) (.seq (.reg [⟨some 2, none, .asg (.c (.bool false))⟩])
 .ret) .skip)))
 (.reg [⟨some 8, none, .mv (.p 3)⟩, ⟨some 9, none, .bin .add (.t 8) (.c (.int .i64 1))⟩, ⟨some 3, none, .asg (.p 9)⟩])))
/-- spec.rName -/
def a_spec_rName : AFn := ⟨1, 23, [.tmp 2], (.seq (.reg [⟨some 2, none, .asg (.c (.bool false))⟩])
 (.seq (.seq (.reg [⟨some 3, none, .asg (.c (.int .i64 0))⟩])
 (.block 0 (.loop [0, 3] [0, 2] b_spec_rName_0)))
 (.seq (.reg [⟨some 20, none, .mv (.p 0)⟩, ⟨some 21, none, .slen (.t 20)⟩, ⟨some 22, none, .call n_spec_l1In [.t 21, .c (.int .i64 1), .c (.int .i64 8)]⟩, ⟨some 2, none, .asg (.p 22)⟩])
 .ret)))⟩
def b_spec_rTerrain_0 : AC := (.seq (.reg [⟨some 10, none, .bin .lss (.t 9) (.t 8)⟩])
 (.seq (.cond (.t 10) .skip (.exit 0))
 (.seq (.block 1 (.seq (.reg [⟨some 11, none, .mv (.p 9)⟩, ⟨some 12, none, .iaddr 5 (.a 7 0) (.t 9)⟩, ⟨some 13, none, .load true 5 (.a 12 0)⟩, ⟨some 6, none, .alloc [.str ⟨#[]⟩, .list true 1 [], .int .i64 0, .int .i64 0, .bool false]⟩, ⟨some 5, none, .asg (.p 11)⟩, ⟨none, none, .store 5 (.t 6) (.a 13 0)⟩])
 (.seq (.reg [⟨some 14, none, .faddr 0 (.t 6)⟩, ⟨some 15, none, .load false 1 (.a 14 6)⟩, ⟨some 16, none, .mv (.p 1)⟩, ⟨some 17, none, .bin .eql (.a 15 6) (.t 16)⟩])
 (.cond (.t 17) (.seq (.reg [⟨some 18, none, .mv (.p 5)⟩, ⟨some 4, none, .asg (.p 18)⟩])
 .ret) .skip))))
 (.reg [⟨some 19, none, .bin .add (.t 9) (.c (.int .i64 1))⟩, ⟨some 9, none, .mv (.p 19)⟩]))))
/-- spec.rTerrain -/
def a_spec_rTerrain : AFn := ⟨2, 20, [.tmp 4], (.seq (.reg [⟨some 4, none, .asg (.c (.int .i64 0))⟩])
 (.seq (.seq (.reg [⟨some 7, none, .rf (.t 0)⟩, ⟨some 8, none, .len (.a 7 0)⟩, ⟨some 9, none, .mv (.c (.int .i64 0))⟩])
 (.block 0 (.loop [0, 1, 7, 8, 9] [4] b_spec_rTerrain_0)))
 (.seq (.reg [⟨some 4, none, .asg (.c (.int .i64 (-1)))⟩])
 .ret)))⟩
def b_spec_rKind_0 : AC := (.seq (.reg [⟨some 10, none, .bin .lss (.t 9) (.t 8)⟩])
 (.seq (.cond (.t 10) .skip (.exit 0))
 (.seq (.block 1 (.seq (.reg [⟨some 11, none, .mv (.p 9)⟩, ⟨some 12, none, .iaddr 6 (.a 7 0) (.t 9)⟩, ⟨some 13, none, .load true 6 (.a 12 0)⟩, ⟨some 6, none, .alloc [.str ⟨#[]⟩, .int .i64 0, .int .i64 0, .int .i64 0, .bool false, .int .i64 0]⟩, ⟨some 5, none, .asg (.p 11)⟩, ⟨none, none, .store 6 (.t 6) (.a 13 0)⟩])
 (.seq (.reg [⟨some 14, none, .faddr 0 (.t 6)⟩, ⟨some 15, none, .load false 1 (.a 14 6)⟩, ⟨some 16, none, .mv (.p 1)⟩, ⟨some 17, none, .bin .eql (.a 15 6) (.t 16)⟩])
 (.cond (.t 17) (.seq (.reg [⟨some 18, none, .mv (.p 5)⟩, ⟨some 4, none, .asg (.p 18)⟩])
 .ret) .skip))))
 (.reg [⟨some 19, none, .bin .add (.t 9) (.c (.int .i64 1))⟩, ⟨some 9, none, .mv (.p 19)⟩]))))
/-- spec.rKind -/
def a_spec_rKind : AFn := ⟨2, 20, [.tmp 4], (.seq (.reg [⟨some 4, none, .asg (.c (.int .i64 0))⟩])
 (.seq (.seq (.reg [⟨some 7, none, .rf (.t 0)⟩, ⟨some 8, none, .len (.a 7 0)⟩, ⟨some 9, none, .mv (.c (.int .i64 0))⟩])
 (.block 0 (.loop [0, 1, 7, 8, 9] [4] b_spec_rKind_0)))
 (.seq (.reg [⟨some 4, none, .asg (.c (.int .i64 (-1)))⟩])
 .ret)))⟩
def b_spec_mEdges_0 : AC := (.seq (.reg [⟨some 10, none, .bin .lss (.t 9) (.t 8)⟩])
 (.seq (.cond (.t 10) .skip (.exit 0))
 (.seq (.block 1 (.seq (.reg [⟨some 11, none, .iaddr 1 (.a 7 1) (.t 9)⟩, ⟨some 12, none, .load false 1 (.a 11 1)⟩, ⟨some 6, none, .asg (.p 12)⟩])
 (.seq (.reg [⟨some 13, none, .mv (.p 6)⟩, ⟨some 14, none, .load true 5 (.t 2)⟩, ⟨some 15, none, .call n_spec_mSize [.a 14 2]⟩, ⟨some 16, none, .bin .mul (.c (.int .i64 3)) (.t 15)⟩, ⟨some 17, none, .bin .sub (.t 16) (.c (.int .i64 1))⟩, ⟨some 18, none, .call n_spec_l1In [.t 13, .c (.int .i64 0), .t 17]⟩, ⟨some 19, none, .un .not (.t 18)⟩, ⟨some 20, none, .mv (.p 19)⟩, ⟨some 21, some (20, false), .load true 5 (.t 2)⟩, ⟨some 22, some (20, false), .mv (.p 6)⟩, ⟨some 23, some (20, false), .bin .quo (.t 22) (.c (.int .i64 3))⟩, ⟨some 24, some (20, false), .mv (.p 6)⟩, ⟨some 25, some (20, false), .bin .rem (.t 24) (.c (.int .i64 3))⟩, ⟨some 26, some (20, false), .call n_spec_mNext [.a 21 2, .t 23, .t 25]⟩, ⟨some 27, some (20, false), .bin .lss (.t 26) (.c (.int .i64 0))⟩, ⟨some 28, none, .pick (.t 20) (.c (.bool true)) (.t 27)⟩])
 (.cond (.t 28) (.seq (.reg [⟨some 4, none, .asg (.c (.bool false))⟩])
 .ret) .skip))))
 (.reg [⟨some 29, none, .bin .add (.t 9) (.c (.int .i64 1))⟩, ⟨some 9, none, .mv (.p 29)⟩]))))
/-- spec.mEdges -/
def a_spec_mEdges : AFn := ⟨2, 36, [.tmp 4], (.seq (.reg [⟨some 2, none, .box (.t 0)⟩, ⟨some 4, none, .asg (.c (.bool false))⟩])
 (.seq (.seq (.reg [⟨some 7, none, .rf (.t 1)⟩, ⟨some 8, none, .len (.a 7 1)⟩, ⟨some 9, none, .mv (.c (.int .i64 0))⟩])
 (.block 0 (.loop [1, 2, 7, 8, 9] [1, 2, 4] b_spec_mEdges_0)))
 (.seq (.reg [⟨some 30, none, .rf (.t 1)⟩, ⟨some 31, none, .load true 5 (.t 2)⟩, ⟨some 32, none, .call n_spec_mSize [.a 31 2]⟩, ⟨some 33, none, .bin .mul (.c (.int .i64 3)) (.t 32)⟩, ⟨some 34, none, .bin .sub (.t 33) (.c (.int .i64 1))⟩, ⟨some 35, none, .call n_spec_l1Rising [.a 30 1, .c (.int .i64 0), .t 34]⟩, ⟨some 4, none, .asg (.p 35)⟩])
 .ret)))⟩
/-- spec.bTerrain -/
def a_spec_bTerrain : AFn := ⟨2, 16, [.cell 4 5 true], (.seq (.reg [⟨some 2, none, .box (.t 0)⟩, ⟨some 4, none, .alloc [.str ⟨#[]⟩, .list true 1 [], .int .i64 0, .int .i64 0, .bool false]⟩])
 (.seq (.reg [⟨some 5, none, .faddr 0 (.t 2)⟩, ⟨some 6, none, .faddr 0 (.a 5 2)⟩, ⟨some 7, none, .load false 1 (.a 6 2)⟩, ⟨some 8, none, .faddr 7 (.t 2)⟩, ⟨some 9, none, .faddr 2 (.a 8 2)⟩, ⟨some 10, none, .load false 1 (.a 9 2)⟩, ⟨some 11, none, .mv (.p 1)⟩, ⟨some 12, none, .iaddr 1 (.a 10 2) (.t 11)⟩, ⟨some 13, none, .load false 1 (.a 12 2)⟩, ⟨some 14, none, .iaddr 5 (.a 7 2) (.a 13 2)⟩, ⟨some 15, none, .load true 5 (.a 14 2)⟩, ⟨none, none, .store 5 (.t 4) (.a 15 2)⟩])
 .ret))⟩
/-- impl.goodTerrain -/
def a_impl_goodTerrain : AFn := ⟨2, 32, [.tmp 4], (.seq (.reg [⟨some 2, none, .box (.t 0)⟩, ⟨some 4, none, .asg (.c (.bool false))⟩])
 (.seq (.seq (.reg [⟨some 5, none, .faddr 0 (.t 2)⟩, ⟨some 6, none, .load false 1 (.a 5 2)⟩, ⟨some 7, none, .call n_impl_isName [.a 6 2]⟩, ⟨some 8, none, .un .not (.t 7)⟩, ⟨some 9, none, .mv (.p 8)⟩, ⟨some 10, some (9, false), .faddr 1 (.t 2)⟩, ⟨some 11, some (9, false), .load false 1 (.a 10 2)⟩, ⟨some 12, some (9, false), .len (.a 11 2)⟩, ⟨some 13, some (9, false), .mv (.p 1)⟩, ⟨some 14, some (9, false), .bin .neq (.t 12) (.t 13)⟩, ⟨some 15, none, .pick (.t 9) (.c (.bool true)) (.t 14)⟩, ⟨some 16, none, .mv (.p 15)⟩, ⟨some 17, some (16, false), .faddr 2 (.t 2)⟩, ⟨some 18, some (16, false), .load false 1 (.a 17 2)⟩, ⟨some 19, some (16, false), .call n_impl_inRange [.a 18 2, .c (.int .i64 (-3)), .c (.int .i64 3)]⟩, ⟨some 20, some (16, false), .un .not (.t 19)⟩, ⟨some 21, none, .pick (.t 16) (.c (.bool true)) (.t 20)⟩, ⟨some 22, none, .mv (.p 21)⟩, ⟨some 23, some (22, false), .faddr 3 (.t 2)⟩, ⟨some 24, some (22, false), .load false 1 (.a 23 2)⟩, ⟨some 25, some (22, false), .call n_impl_inRange [.a 24 2, .c (.int .i64 0), .c (.int .i64 3)]⟩, ⟨some 26, some (22, false), .un .not (.t 25)⟩, ⟨some 27, none, .pick (.t 22) (.c (.bool true)) (.t 26)⟩])
 (.cond (.t 27) (.seq (.reg [⟨some 4, none, .asg (.c (.bool false))⟩])
 .ret) .skip))
 (.seq (.reg [⟨some 28, none, .faddr 1 (.t 2)⟩, ⟨some 29, none, .load false 1 (.a 28 2)⟩, ⟨some 30, none, .call n_slices_ContainsFunc_int_int [.a 29 2, .f n_impl_goodTerrain_1]⟩, ⟨some 31, none, .un .not (.t 30)⟩, ⟨some 4, none, .asg (.p 31)⟩])
 .ret)))⟩
/-- impl.terrainIndex -/
def a_impl_terrainIndex : AFn := ⟨2, 8, [.tmp 4], (.seq (.reg [⟨some 3, none, .box (.p 1)⟩, ⟨some 4, none, .asg (.c (.int .i64 0))⟩])
 (.seq (.reg [⟨some 5, none, .rf (.t 0)⟩, ⟨some 6, none, .mkf n_impl_terrainIndex_1 [.t 3]⟩, ⟨some 7, none, .call n_slices_IndexFunc_impl_Terrain_impl_Terrain [.a 5 0, .t 6]⟩, ⟨some 4, none, .asg (.p 7)⟩])
 .ret))⟩
/-- impl.goodKind -/
def a_impl_goodKind : AFn := ⟨1, 26, [.tmp 2], (.seq (.reg [⟨some 1, none, .box (.t 0)⟩, ⟨some 2, none, .asg (.c (.bool false))⟩])
 (.seq (.reg [⟨some 3, none, .faddr 0 (.t 1)⟩, ⟨some 4, none, .load false 1 (.a 3 1)⟩, ⟨some 5, none, .call n_impl_isName [.a 4 1]⟩, ⟨some 6, none, .mv (.p 5)⟩, ⟨some 7, some (6, true), .faddr 1 (.t 1)⟩, ⟨some 8, some (6, true), .load false 1 (.a 7 1)⟩, ⟨some 9, some (6, true), .call n_impl_inRange [.a 8 1, .c (.int .i64 1), .c (.int .i64 9)]⟩, ⟨some 10, none, .pick (.t 6) (.t 9) (.c (.bool false))⟩, ⟨some 11, none, .mv (.p 10)⟩, ⟨some 12, some (11, true), .faddr 2 (.t 1)⟩, ⟨some 13, some (11, true), .load false 1 (.a 12 1)⟩, ⟨some 14, some (11, true), .call n_impl_inRange [.a 13 1, .c (.int .i64 0), .c (.int .i64 9)]⟩, ⟨some 15, none, .pick (.t 11) (.t 14) (.c (.bool false))⟩, ⟨some 16, none, .mv (.p 15)⟩, ⟨some 17, some (16, true), .faddr 3 (.t 1)⟩, ⟨some 18, some (16, true), .load false 1 (.a 17 1)⟩, ⟨some 19, some (16, true), .call n_impl_inRange [.a 18 1, .c (.int .i64 1), .c (.int .i64 4)]⟩, ⟨some 20, none, .pick (.t 16) (.t 19) (.c (.bool false))⟩, ⟨some 21, none, .mv (.p 20)⟩, ⟨some 22, some (21, true), .faddr 5 (.t 1)⟩, ⟨some 23, some (21, true), .load false 1 (.a 22 1)⟩, ⟨some 24, some (21, true), .call n_impl_inRange [.a 23 1, .c (.int .i64 0), .c (.int .i64 4)]⟩, ⟨some 25, none, .pick (.t 21) (.t 24) (.c (.bool false))⟩, ⟨some 2, none, .asg (.p 25)⟩])
 .ret))⟩
/-- impl.kindIndex -/
def a_impl_kindIndex : AFn := ⟨2, 8, [.tmp 4], (.seq (.reg [⟨some 3, none, .box (.p 1)⟩, ⟨some 4, none, .asg (.c (.int .i64 0))⟩])
 (.seq (.reg [⟨some 5, none, .rf (.t 0)⟩, ⟨some 6, none, .mkf n_impl_kindIndex_1 [.t 3]⟩, ⟨some 7, none, .call n_slices_IndexFunc_impl_Kind_impl_Kind [.a 5 0, .t 6]⟩, ⟨some 4, none, .asg (.p 7)⟩])
 .ret))⟩
/-- impl.isEdge -/
def a_impl_isEdge : AFn := ⟨2, 23, [.tmp 4], (.seq (.reg [⟨some 2, none, .box (.t 0)⟩, ⟨some 4, none, .asg (.c (.bool false))⟩])
 (.seq (.reg [⟨some 5, none, .mv (.p 1)⟩, ⟨some 6, none, .faddr 0 (.t 2)⟩, ⟨some 7, none, .load false 1 (.a 6 2)⟩, ⟨some 8, none, .bin .mul (.c (.int .i64 3)) (.a 7 2)⟩, ⟨some 9, none, .faddr 1 (.t 2)⟩, ⟨some 10, none, .load false 1 (.a 9 2)⟩, ⟨some 11, none, .bin .mul (.t 8) (.a 10 2)⟩, ⟨some 12, none, .bin .sub (.t 11) (.c (.int .i64 1))⟩, ⟨some 13, none, .call n_impl_inRange [.t 5, .c (.int .i64 0), .t 12]⟩, ⟨some 14, none, .mv (.p 13)⟩, ⟨some 15, some (14, true), .load true 5 (.t 2)⟩, ⟨some 16, some (14, true), .mv (.p 1)⟩, ⟨some 17, some (14, true), .bin .quo (.t 16) (.c (.int .i64 3))⟩, ⟨some 18, some (14, true), .mv (.p 1)⟩, ⟨some 19, some (14, true), .bin .rem (.t 18) (.c (.int .i64 3))⟩, ⟨some 20, some (14, true), .call n_impl_nextTo [.a 15 2, .t 17, .t 19]⟩, ⟨some 21, some (14, true), .bin .geq (.t 20) (.c (.int .i64 0))⟩, ⟨some 22, none, .pick (.t 14) (.t 21) (.c (.bool false))⟩, ⟨some 4, none, .asg (.p 22)⟩])
 .ret))⟩
def b_slices_IndexFunc_impl_Attempt_impl_Attempt_0 : AC := (.seq (.reg [⟨some 9, none, .bin .lss (.t 8) (.t 7)⟩])
 (.seq (.cond (.t 9) .skip (.exit 0))
 (.seq (.block 1 (.seq (.reg [⟨some 10, none, .mv (.p 8)⟩, ⟨some 5, none, .asg (.p 10)⟩])
 (.seq (.reg [⟨some 11, none, .rf (.t 1)⟩, ⟨some 12, none, .rf (.t 0)⟩, ⟨some 13, none, .mv (.p 5)⟩, ⟨some 14, none, .iaddr 3 (.a 12 0) (.t 13)⟩, ⟨some 15, none, .load true 3 (.a 14 0)⟩, ⟨some 16, none, .callv (.a 11 1) [.a 15 0]⟩])
 (.cond (.t 16) (.seq (.reg [⟨some 17, none, .mv (.p 5)⟩, ⟨some 4, none, .asg (.p 17)⟩])
 .ret) .skip))))
 (.reg [⟨some 18, none, .bin .add (.t 8) (.c (.int .i64 1))⟩, ⟨some 8, none, .mv (.p 18)⟩]))))
/-- slices.IndexFunc[[]impl.Attempt,impl.Attempt] -/
def a_slices_IndexFunc_impl_Attempt_impl_Attempt : AFn := ⟨2, 19, [.tmp 4], (.seq (.reg [⟨some 4, none, .asg (.c (.int .i64 0))⟩])
 (.seq (.seq (.reg [⟨some 6, none, .rf (.t 0)⟩, ⟨some 7, none, .len (.a 6 0)⟩, ⟨some 8, none, .mv (.c (.int .i64 0))⟩])
 (.block 0 (.loop [0, 1, 7, 8] [4] b_slices_IndexFunc_impl_Attempt_impl_Attempt_0)))
 (.seq (.reg [⟨some 4, none, .asg (.c (.int .i64 (-1)))⟩])
 .ret)))⟩
def b_spec_l1Has_0 : AC := (.seq (.reg [⟨some 10, none, .bin .lss (.t 9) (.t 8)⟩])
 (.seq (.cond (.t 10) .skip (.exit 0))
 (.seq (.block 1 (.seq (.reg [⟨some 11, none, .iaddr 1 (.a 7 0) (.t 9)⟩, ⟨some 12, none, .load false 1 (.a 11 0)⟩, ⟨some 6, none, .asg (.p 12)⟩])
 (.seq (.reg [⟨some 13, none, .mv (.p 6)⟩, ⟨some 14, none, .mv (.p 1)⟩, ⟨some 15, none, .bin .eql (.t 13) (.t 14)⟩])
 (.cond (.t 15) (.seq (.reg [⟨some 4, none, .asg (.c (.bool true))⟩])
 .ret) .skip))))
 (.reg [⟨some 16, none, .bin .add (.t 9) (.c (.int .i64 1))⟩, ⟨some 9, none, .mv (.p 16)⟩]))))
/-- spec.l1Has -/
def a_spec_l1Has : AFn := ⟨2, 17, [.tmp 4], (.seq (.reg [⟨some 4, none, .asg (.c (.bool false))⟩])
 (.seq (.seq (.reg [⟨some 7, none, .rf (.t 0)⟩, ⟨some 8, none, .len (.a 7 0)⟩, ⟨some 9, none, .mv (.c (.int .i64 0))⟩])
 (.block 0 (.loop [0, 1, 7, 8, 9] [4] b_spec_l1Has_0)))
 (.seq (.reg [⟨some 4, none, .asg (.c (.bool false))⟩])
 .ret)))⟩
/-- spec.mEdge -/
def a_spec_mEdge : AFn := ⟨3, 21, [.tmp 6], (.seq (.reg [⟨some 3, none, .box (.t 0)⟩, ⟨some 6, none, .asg (.c (.int .i64 0))⟩])
 (.seq (.seq (.reg [⟨some 7, none, .mv (.p 2)⟩, ⟨some 8, none, .bin .lss (.t 7) (.c (.int .i64 3))⟩])
 (.cond (.t 8) (.seq (.reg [⟨some 9, none, .mv (.p 1)⟩, ⟨some 10, none, .bin .mul (.c (.int .i64 3)) (.t 9)⟩, ⟨some 11, none, .mv (.p 2)⟩, ⟨some 12, none, .bin .add (.t 10) (.t 11)⟩, ⟨some 6, none, .asg (.p 12)⟩])
 .ret) .skip))
 (.seq (.reg [⟨some 13, none, .load true 5 (.t 3)⟩, ⟨some 14, none, .mv (.p 1)⟩, ⟨some 15, none, .mv (.p 2)⟩, ⟨some 16, none, .call n_spec_mNext [.a 13 3, .t 14, .t 15]⟩, ⟨some 17, none, .bin .mul (.c (.int .i64 3)) (.t 16)⟩, ⟨some 18, none, .mv (.p 2)⟩, ⟨some 19, none, .bin .add (.t 17) (.t 18)⟩, ⟨some 20, none, .bin .sub (.t 19) (.c (.int .i64 3))⟩, ⟨some 6, none, .asg (.p 20)⟩])
 .ret)))⟩
def b_spec_zSources_0 : AC := (.seq (.reg [⟨some 16, none, .bin .lss (.t 15) (.t 14)⟩])
 (.seq (.cond (.t 16) .skip (.exit 0))
 (.seq (.block 1 (.seq (.reg [⟨some 17, none, .mv (.p 15)⟩, ⟨some 18, none, .iaddr 4 (.a 13 5) (.t 15)⟩, ⟨some 19, none, .load true 4 (.a 18 5)⟩, ⟨some 11, none, .alloc [.int .i64 0, .int .i64 0, .int .i64 0, .int .i64 0]⟩, ⟨some 10, none, .asg (.p 17)⟩, ⟨none, none, .store 4 (.t 11) (.a 19 5)⟩])
 (.seq (.reg [⟨some 20, none, .faddr 0 (.t 11)⟩, ⟨some 21, none, .load false 1 (.a 20 11)⟩, ⟨some 22, none, .mv (.p 2)⟩, ⟨some 23, none, .bin .eql (.a 21 11) (.t 22)⟩, ⟨some 24, none, .mv (.p 23)⟩, ⟨some 25, some (24, true), .load true 12 (.t 4)⟩, ⟨some 26, some (24, true), .load true 3 (.t 5)⟩, ⟨some 27, some (24, true), .mv (.p 10)⟩, ⟨some 28, some (24, true), .mv (.p 3)⟩, ⟨some 29, some (24, true), .call n_spec_zExerts [.a 25 4, .a 26 5, .t 27, .t 28]⟩, ⟨some 30, none, .pick (.t 24) (.t 29) (.c (.bool false))⟩])
 (.cond (.t 30) (.reg [⟨some 31, none, .rf (.t 9)⟩, ⟨some 32, none, .mv (.p 10)⟩, ⟨some 33, none, .bslice 1 1 [.int .i64 0] [(0, .p 32)]⟩, ⟨some 34, none, .append 1 (.a 31 9) (.t 33)⟩, ⟨some 9, none, .asg (.t 34)⟩]) .skip))))
 (.reg [⟨some 35, none, .bin .add (.t 15) (.c (.int .i64 1))⟩, ⟨some 15, none, .mv (.p 35)⟩]))))
/-- spec.zSources -/
def a_spec_zSources : AFn := ⟨4, 37, [.tmp 8], (.seq (.reg [⟨some 4, none, .box (.t 0)⟩, ⟨some 5, none, .box (.t 1)⟩, ⟨some 8, none, .asg (.c (.list true 1 []))⟩])
 (.seq (.reg [⟨some 9, none, .asg (.c (.list true 1 []))⟩])
 (.seq (.seq (.reg [⟨some 12, none, .faddr 2 (.t 5)⟩, ⟨some 13, none, .load false 1 (.a 12 5)⟩, ⟨some 14, none, .len (.a 13 5)⟩, ⟨some 15, none, .mv (.c (.int .i64 0))⟩])
 (.block 0 (.loop [2, 3, 4, 5, 9, 13, 14, 15] [8, 9] b_spec_zSources_0)))
 (.seq (.reg [⟨some 36, none, .rf (.t 9)⟩, ⟨some 8, none, .asg (.a 36 9)⟩])
 .ret))))⟩
/-- impl.terrainAt -/
def a_impl_terrainAt : AFn := ⟨2, 16, [.cell 4 5 true], (.seq (.reg [⟨some 2, none, .box (.t 0)⟩, ⟨some 4, none, .alloc [.str ⟨#[]⟩, .list true 1 [], .int .i64 0, .int .i64 0, .bool false]⟩])
 (.seq (.reg [⟨some 5, none, .faddr 0 (.t 2)⟩, ⟨some 6, none, .faddr 0 (.a 5 2)⟩, ⟨some 7, none, .load false 1 (.a 6 2)⟩, ⟨some 8, none, .faddr 7 (.t 2)⟩, ⟨some 9, none, .faddr 2 (.a 8 2)⟩, ⟨some 10, none, .load false 1 (.a 9 2)⟩, ⟨some 11, none, .mv (.p 1)⟩, ⟨some 12, none, .iaddr 1 (.a 10 2) (.t 11)⟩, ⟨some 13, none, .load false 1 (.a 12 2)⟩, ⟨some 14, none, .iaddr 5 (.a 7 2) (.a 13 2)⟩, ⟨some 15, none, .load true 5 (.a 14 2)⟩, ⟨none, none, .store 5 (.t 4) (.a 15 2)⟩])
 .ret))⟩
def b_slices_Index_int_int_0 : AC := (.seq (.reg [⟨some 9, none, .bin .lss (.t 8) (.t 7)⟩])
 (.seq (.cond (.t 9) .skip (.exit 0))
 (.seq (.block 1 (.seq (.reg [⟨some 10, none, .mv (.p 8)⟩, ⟨some 5, none, .asg (.p 10)⟩])
 (.seq (.reg [⟨some 11, none, .mv (.p 1)⟩, ⟨some 12, none, .rf (.t 0)⟩, ⟨some 13, none, .mv (.p 5)⟩, ⟨some 14, none, .iaddr 1 (.a 12 0) (.t 13)⟩, ⟨some 15, none, .load false 1 (.a 14 0)⟩, ⟨some 16, none, .bin .eql (.t 11) (.a 15 0)⟩])
 (.cond (.t 16) (.seq (.reg [⟨some 17, none, .mv (.p 5)⟩, ⟨some 4, none, .asg (.p 17)⟩])
 .ret) .skip))))
 (.reg [⟨some 18, none, .bin .add (.t 8) (.c (.int .i64 1))⟩, ⟨some 8, none, .mv (.p 18)⟩]))))
/-- slices.Index[[]int,int] -/
def a_slices_Index_int_int : AFn := ⟨2, 19, [.tmp 4], (.seq (.reg [⟨some 4, none, .asg (.c (.int .i64 0))⟩])
 (.seq (.seq (.reg [⟨some 6, none, .rf (.t 0)⟩, ⟨some 7, none, .len (.a 6 0)⟩, ⟨some 8, none, .mv (.c (.int .i64 0))⟩])
 (.block 0 (.loop [0, 1, 7, 8] [4] b_slices_Index_int_int_0)))
 (.seq (.reg [⟨some 4, none, .asg (.c (.int .i64 (-1)))⟩])
 .ret)))⟩
def b_impl_controls_0 : AC := (.seq (.reg [⟨some 31, none, .bin .lss (.t 30) (.c (.int .i64 6))⟩])
 (.seq (.cond (.t 31) .skip (.exit 0))
 (.seq (.block 1 (.seq (.reg [⟨some 32, none, .mv (.p 30)⟩, ⟨some 7, none, .asg (.p 32)⟩])
 (.seq (.reg [⟨some 33, none, .faddr 7 (.t 3)⟩, ⟨some 34, none, .load true 5 (.a 33 3)⟩, ⟨some 35, none, .faddr 2 (.t 4)⟩, ⟨some 36, none, .load false 1 (.a 35 4)⟩, ⟨some 37, none, .mv (.p 7)⟩, ⟨some 38, none, .call n_impl_nextTo [.a 34 3, .a 36 4, .t 37]⟩, ⟨some 39, none, .mv (.p 2)⟩, ⟨some 40, none, .bin .eql (.t 38) (.t 39)⟩])
 (.cond (.t 40) (.seq (.reg [⟨some 41, none, .faddr 7 (.t 3)⟩, ⟨some 42, none, .load true 5 (.a 41 3)⟩, ⟨some 43, none, .faddr 7 (.t 3)⟩, ⟨some 44, none, .load true 5 (.a 43 3)⟩, ⟨some 45, none, .faddr 2 (.t 4)⟩, ⟨some 46, none, .load false 1 (.a 45 4)⟩, ⟨some 47, none, .mv (.p 7)⟩, ⟨some 48, none, .call n_impl_edgeOf [.a 44 3, .a 46 4, .t 47]⟩, ⟨some 49, none, .call n_impl_crossesFreely [.a 42 3, .t 48]⟩, ⟨some 6, none, .asg (.p 49)⟩])
 .ret) .skip))))
 (.reg [⟨some 50, none, .bin .add (.t 30) (.c (.int .i64 1))⟩, ⟨some 30, none, .mv (.p 50)⟩]))))
/-- impl.controls -/
def a_impl_controls : AFn := ⟨3, 51, [.tmp 6], (.seq (.reg [⟨some 3, none, .box (.t 0)⟩, ⟨some 4, none, .box (.t 1)⟩, ⟨some 6, none, .asg (.c (.bool false))⟩])
 (.seq (.seq (.reg [⟨some 8, none, .faddr 2 (.t 4)⟩, ⟨some 9, none, .load false 1 (.a 8 4)⟩, ⟨some 10, none, .bin .lss (.a 9 4) (.c (.int .i64 0))⟩, ⟨some 11, none, .mv (.p 10)⟩, ⟨some 12, some (11, false), .faddr 0 (.t 3)⟩, ⟨some 13, some (11, false), .faddr 1 (.a 12 3)⟩, ⟨some 14, some (11, false), .load false 1 (.a 13 3)⟩, ⟨some 15, some (11, false), .faddr 1 (.t 4)⟩, ⟨some 16, some (11, false), .load false 1 (.a 15 4)⟩, ⟨some 17, some (11, false), .iaddr 6 (.a 14 3) (.a 16 4)⟩, ⟨some 18, some (11, false), .faddr 4 (.a 17 3)⟩, ⟨some 19, some (11, false), .load false 1 (.a 18 3)⟩, ⟨some 20, some (11, false), .un .not (.a 19 3)⟩, ⟨some 21, none, .pick (.t 11) (.c (.bool true)) (.t 20)⟩, ⟨some 22, none, .mv (.p 21)⟩, ⟨some 23, some (22, false), .load true 12 (.t 3)⟩, ⟨some 24, some (22, false), .faddr 1 (.t 4)⟩, ⟨some 25, some (22, false), .load false 1 (.a 24 4)⟩, ⟨some 26, some (22, false), .mv (.p 2)⟩, ⟨some 27, some (22, false), .call n_impl_enterCost [.a 23 3, .a 25 4, .t 26]⟩, ⟨some 28, some (22, false), .bin .eql (.t 27) (.c (.int .i64 0))⟩, ⟨some 29, none, .pick (.t 22) (.c (.bool true)) (.t 28)⟩])
 (.cond (.t 29) (.seq (.reg [⟨some 6, none, .asg (.c (.bool false))⟩])
 .ret) .skip))
 (.seq (.seq (.reg [⟨some 30, none, .mv (.c (.int .i64 0))⟩])
 (.block 0 (.loop [2, 3, 4, 30] [6] b_impl_controls_0)))
 (.seq (.reg [⟨some 6, none, .asg (.c (.bool false))⟩])
 .ret))))⟩
/-- spec.oCost -/
def a_spec_oCost : AFn := ⟨3, 31, [.tmp 6], (.seq (.reg [⟨some 3, none, .box (.t 0)⟩, ⟨some 4, none, .box (.t 1)⟩, ⟨some 5, none, .box (.t 2)⟩, ⟨some 6, none, .asg (.c (.int .i64 0))⟩])
 (.seq (.seq (.reg [⟨some 7, none, .faddr 1 (.t 5)⟩, ⟨some 8, none, .load false 1 (.a 7 5)⟩, ⟨some 9, none, .call n_spec_csPath [.a 8 5]⟩, ⟨some 10, none, .un .not (.t 9)⟩])
 (.cond (.t 10) (.seq (.reg [⟨some 6, none, .asg (.c (.int .i64 (-1)))⟩])
 .ret) .skip))
 (.seq (.reg [⟨some 11, none, .load true 12 (.t 3)⟩, ⟨some 12, none, .faddr 2 (.t 4)⟩, ⟨some 13, none, .load false 1 (.a 12 4)⟩, ⟨some 14, none, .faddr 0 (.t 5)⟩, ⟨some 15, none, .load false 1 (.a 14 5)⟩, ⟨some 16, none, .iaddr 4 (.a 13 4) (.a 15 5)⟩, ⟨some 17, none, .faddr 1 (.a 16 4)⟩, ⟨some 18, none, .load false 1 (.a 17 4)⟩, ⟨some 19, none, .faddr 1 (.t 4)⟩, ⟨some 20, none, .load false 1 (.a 19 4)⟩, ⟨some 21, none, .faddr 2 (.t 4)⟩, ⟨some 22, none, .load false 1 (.a 21 4)⟩, ⟨some 23, none, .faddr 0 (.t 5)⟩, ⟨some 24, none, .load false 1 (.a 23 5)⟩, ⟨some 25, none, .iaddr 4 (.a 22 4) (.a 24 5)⟩, ⟨some 26, none, .faddr 2 (.a 25 4)⟩, ⟨some 27, none, .load false 1 (.a 26 4)⟩, ⟨some 28, none, .faddr 1 (.t 5)⟩, ⟨some 29, none, .load false 1 (.a 28 5)⟩, ⟨some 30, none, .call n_spec_csCost [.a 11 3, .a 18 4, .a 20 4, .a 27 4, .a 29 5]⟩, ⟨some 6, none, .asg (.p 30)⟩])
 .ret)))⟩
def b_spec_oEnd_0 : AC := (.seq (.reg [⟨some 21, none, .bin .lss (.t 20) (.t 19)⟩])
 (.seq (.cond (.t 21) .skip (.exit 0))
 (.seq (.block 1 (.seq (.reg [⟨some 22, none, .iaddr 1 (.a 18 5) (.t 20)⟩, ⟨some 23, none, .load false 1 (.a 22 5)⟩, ⟨some 9, none, .asg (.p 23)⟩])
 (.reg [⟨some 24, none, .faddr 7 (.t 3)⟩, ⟨some 25, none, .load true 5 (.a 24 3)⟩, ⟨some 26, none, .mv (.p 7)⟩, ⟨some 27, none, .mv (.p 9)⟩, ⟨some 28, none, .call n_spec_mNext [.a 25 3, .t 26, .t 27]⟩, ⟨some 7, none, .asg (.p 28)⟩])))
 (.reg [⟨some 29, none, .bin .add (.t 20) (.c (.int .i64 1))⟩, ⟨some 20, none, .mv (.p 29)⟩]))))
/-- spec.oEnd -/
def a_spec_oEnd : AFn := ⟨3, 31, [.tmp 6], (.seq (.reg [⟨some 3, none, .box (.t 0)⟩, ⟨some 4, none, .box (.t 1)⟩, ⟨some 5, none, .box (.t 2)⟩, ⟨some 6, none, .asg (.c (.int .i64 0))⟩])
 (.seq (.reg [⟨some 10, none, .faddr 2 (.t 4)⟩, ⟨some 11, none, .load false 1 (.a 10 4)⟩, ⟨some 12, none, .faddr 0 (.t 5)⟩, ⟨some 13, none, .load false 1 (.a 12 5)⟩, ⟨some 14, none, .iaddr 4 (.a 11 4) (.a 13 5)⟩, ⟨some 15, none, .faddr 2 (.a 14 4)⟩, ⟨some 16, none, .load false 1 (.a 15 4)⟩, ⟨some 7, none, .asg (.p 16)⟩])
 (.seq (.seq (.reg [⟨some 17, none, .faddr 1 (.t 5)⟩, ⟨some 18, none, .load false 1 (.a 17 5)⟩, ⟨some 19, none, .len (.a 18 5)⟩, ⟨some 20, none, .mv (.c (.int .i64 0))⟩])
 (.block 0 (.loop [3, 5, 7, 18, 19, 20] [6, 7] b_spec_oEnd_0)))
 (.seq (.reg [⟨some 30, none, .mv (.p 7)⟩, ⟨some 6, none, .asg (.p 30)⟩])
 .ret))))⟩
/-- impl.orderFault -/
def a_impl_orderFault : AFn := ⟨4, 65, [.tmp 8], (.seq (.reg [⟨some 4, none, .box (.t 0)⟩, ⟨some 5, none, .box (.t 1)⟩, ⟨some 7, none, .box (.t 3)⟩, ⟨some 8, none, .asg (.c (.int .i64 0))⟩])
 (.seq (.seq (.reg [⟨some 12, none, .load true 3 (.t 5)⟩, ⟨some 13, none, .mv (.p 2)⟩, ⟨some 14, none, .faddr 0 (.t 7)⟩, ⟨some 15, none, .load false 1 (.a 14 7)⟩, ⟨some 16, none, .call n_impl_ownsUnit [.a 12 5, .t 13, .a 15 7]⟩, ⟨some 17, none, .un .not (.t 16)⟩])
 (.cond (.t 17) (.seq (.reg [⟨some 8, none, .asg (.c (.int .i64 1))⟩])
 .ret) .skip))
 (.seq (.reg [⟨some 18, none, .faddr 2 (.t 5)⟩, ⟨some 19, none, .load false 1 (.a 18 5)⟩, ⟨some 20, none, .faddr 0 (.t 7)⟩, ⟨some 21, none, .load false 1 (.a 20 7)⟩, ⟨some 22, none, .iaddr 4 (.a 19 5) (.a 21 7)⟩, ⟨some 23, none, .load true 4 (.a 22 5)⟩, ⟨some 9, none, .alloc [.int .i64 0, .int .i64 0, .int .i64 0, .int .i64 0]⟩, ⟨none, none, .store 4 (.t 9) (.a 23 5)⟩])
 (.seq (.reg [⟨some 25, none, .load true 12 (.t 4)⟩, ⟨some 26, none, .faddr 1 (.t 9)⟩, ⟨some 27, none, .load false 1 (.a 26 9)⟩, ⟨some 28, none, .faddr 1 (.t 5)⟩, ⟨some 29, none, .load false 1 (.a 28 5)⟩, ⟨some 30, none, .faddr 2 (.t 9)⟩, ⟨some 31, none, .load false 1 (.a 30 9)⟩, ⟨some 32, none, .faddr 1 (.t 7)⟩, ⟨some 33, none, .load false 1 (.a 32 7)⟩, ⟨some 34, none, .call n_impl_PathCost [.a 25 4, .a 27 9, .a 29 5, .a 31 9, .a 33 7]⟩, ⟨some 24, none, .mv (.t 34)⟩, ⟨some 35, none, .extract (.p 24) 0⟩, ⟨some 36, none, .extract (.p 24) 1⟩, ⟨some 10, none, .asg (.p 35)⟩, ⟨some 11, none, .asg (.p 36)⟩])
 (.seq (.seq (.reg [⟨some 37, none, .mv (.p 11)⟩, ⟨some 38, none, .un .not (.t 37)⟩])
 (.cond (.t 38) (.seq (.reg [⟨some 8, none, .asg (.c (.int .i64 3))⟩])
 .ret) .skip))
 (.seq (.seq (.reg [⟨some 39, none, .mv (.p 10)⟩, ⟨some 40, none, .faddr 0 (.t 4)⟩, ⟨some 41, none, .faddr 1 (.a 40 4)⟩, ⟨some 42, none, .load false 1 (.a 41 4)⟩, ⟨some 43, none, .faddr 1 (.t 9)⟩, ⟨some 44, none, .load false 1 (.a 43 9)⟩, ⟨some 45, none, .iaddr 6 (.a 42 4) (.a 44 9)⟩, ⟨some 46, none, .faddr 2 (.a 45 4)⟩, ⟨some 47, none, .load false 1 (.a 46 4)⟩, ⟨some 48, none, .bin .gtr (.t 39) (.a 47 4)⟩])
 (.cond (.t 48) (.seq (.reg [⟨some 8, none, .asg (.c (.int .i64 4))⟩])
 .ret) .skip))
 (.seq (.seq (.reg [⟨some 49, none, .faddr 2 (.t 7)⟩, ⟨some 50, none, .load false 1 (.a 49 7)⟩, ⟨some 51, none, .bin .neq (.a 50 7) (.c (.int .i64 (-1)))⟩, ⟨some 52, none, .mv (.p 51)⟩, ⟨some 53, some (52, true), .faddr 7 (.t 4)⟩, ⟨some 54, some (52, true), .load true 5 (.a 53 4)⟩, ⟨some 55, some (52, true), .load true 12 (.t 4)⟩, ⟨some 56, some (52, true), .load true 3 (.t 5)⟩, ⟨some 57, some (52, true), .load true 3 (.t 7)⟩, ⟨some 58, some (52, true), .call n_impl_endOf [.a 55 4, .a 56 5, .a 57 7]⟩, ⟨some 59, some (52, true), .call n_impl_neighboursOn [.a 54 4, .t 58]⟩, ⟨some 60, some (52, true), .faddr 2 (.t 7)⟩, ⟨some 61, some (52, true), .load false 1 (.a 60 7)⟩, ⟨some 62, some (52, true), .call n_slices_Contains_int_int [.t 59, .a 61 7]⟩, ⟨some 63, some (52, true), .un .not (.t 62)⟩, ⟨some 64, none, .pick (.t 52) (.t 63) (.c (.bool false))⟩])
 (.cond (.t 64) (.seq (.reg [⟨some 8, none, .asg (.c (.int .i64 5))⟩])
 .ret) .skip))
 (.seq (.reg [⟨some 8, none, .asg (.c (.int .i64 0))⟩])
 .ret))))))))⟩
def b_impl_isName_0 : AC := (.seq (.seq (.reg [⟨some 4, none, .mv (.p 3)⟩, ⟨some 5, none, .mv (.p 0)⟩, ⟨some 6, none, .slen (.t 5)⟩, ⟨some 7, none, .bin .lss (.t 4) (.t 6)⟩])
 (.cond (.t 7) .skip (.exit 0)))
 (.seq (.block 1 (.seq (.reg [⟨some 10, none, .mv (.p 0)⟩, ⟨some 11, none, .mv (.p 3)⟩, ⟨some 12, none, .sidx (.t 10) (.t 11)⟩, ⟨some 13, none, .bin .lss (.t 12) (.c (.int .u8 97))⟩, ⟨some 14, none, .mv (.p 13)⟩, ⟨some 15, some (14, false), .mv (.p 0)⟩, ⟨some 16, some (14, false), .mv (.p 3)⟩, ⟨some 17, some (14, false), .sidx (.t 15) (.t 16)⟩, ⟨some 18, some (14, false), .bin .gtr (.t 17) (.c (.int .u8 122))⟩, ⟨some 19, none, .pick (.t 14) (.c (.bool true)) (.t 18)⟩])
 (.cond (.t 19) (.seq (.reg [⟨some 2, none, .asg (.c (.bool false))⟩])
 .ret) .skip)))
 (.reg [⟨some 8, none, .mv (.p 3)⟩, ⟨some 9, none, .bin .add (.t 8) (.c (.int .i64 1))⟩, ⟨some 3, none, .asg (.p 9)⟩])))
/-- impl.isName -/
def a_impl_isName : AFn := ⟨1, 23, [.tmp 2], (.seq (.reg [⟨some 2, none, .asg (.c (.bool false))⟩])
 (.seq (.seq (.reg [⟨some 3, none, .asg (.c (.int .i64 0))⟩])
 (.block 0 (.loop [0, 3] [0, 2] b_impl_isName_0)))
 (.seq (.reg [⟨some 20, none, .mv (.p 0)⟩, ⟨some 21, none, .slen (.t 20)⟩, ⟨some 22, none, .call n_impl_inRange [.t 21, .c (.int .i64 1), .c (.int .i64 8)]⟩, ⟨some 2, none, .asg (.p 22)⟩])
 .ret)))⟩
/-- impl.goodTerrain$1 -/
def a_impl_goodTerrain_1 : AFn := ⟨1, 6, [.tmp 2], (.seq (.reg [⟨some 2, none, .asg (.c (.bool false))⟩])
 (.seq (.reg [⟨some 3, none, .mv (.p 0)⟩, ⟨some 4, none, .call n_impl_inRange [.t 3, .c (.int .i64 0), .c (.int .i64 9)]⟩, ⟨some 5, none, .un .not (.t 4)⟩, ⟨some 2, none, .asg (.p 5)⟩])
 .ret))⟩
def b_slices_IndexFunc_impl_Terrain_impl_Terrain_0 : AC := (.seq (.reg [⟨some 9, none, .bin .lss (.t 8) (.t 7)⟩])
 (.seq (.cond (.t 9) .skip (.exit 0))
 (.seq (.block 1 (.seq (.reg [⟨some 10, none, .mv (.p 8)⟩, ⟨some 5, none, .asg (.p 10)⟩])
 (.seq (.reg [⟨some 11, none, .rf (.t 1)⟩, ⟨some 12, none, .rf (.t 0)⟩, ⟨some 13, none, .mv (.p 5)⟩, ⟨some 14, none, .iaddr 5 (.a 12 0) (.t 13)⟩, ⟨some 15, none, .load true 5 (.a 14 0)⟩, ⟨some 16, none, .callv (.a 11 1) [.a 15 0]⟩])
 (.cond (.t 16) (.seq (.reg [⟨some 17, none, .mv (.p 5)⟩, ⟨some 4, none, .asg (.p 17)⟩])
 .ret) .skip))))
 (.reg [⟨some 18, none, .bin .add (.t 8) (.c (.int .i64 1))⟩, ⟨some 8, none, .mv (.p 18)⟩]))))
/-- slices.IndexFunc[[]impl.Terrain,impl.Terrain] -/
def a_slices_IndexFunc_impl_Terrain_impl_Terrain : AFn := ⟨2, 19, [.tmp 4], (.seq (.reg [⟨some 4, none, .asg (.c (.int .i64 0))⟩])
 (.seq (.seq (.reg [⟨some 6, none, .rf (.t 0)⟩, ⟨some 7, none, .len (.a 6 0)⟩, ⟨some 8, none, .mv (.c (.int .i64 0))⟩])
 (.block 0 (.loop [0, 1, 7, 8] [4] b_slices_IndexFunc_impl_Terrain_impl_Terrain_0)))
 (.seq (.reg [⟨some 4, none, .asg (.c (.int .i64 (-1)))⟩])
 .ret)))⟩
/-- impl.terrainIndex$1 -/
def a_impl_terrainIndex_1 : AFn := ⟨2, 8, [.tmp 3], (.seq (.reg [⟨some 2, none, .box (.t 0)⟩, ⟨some 3, none, .asg (.c (.bool false))⟩])
 (.seq (.reg [⟨some 4, none, .faddr 0 (.t 2)⟩, ⟨some 5, none, .load false 1 (.a 4 2)⟩, ⟨some 6, none, .load false 1 (.t 1)⟩, ⟨some 7, none, .bin .eql (.a 5 2) (.a 6 1)⟩, ⟨some 3, none, .asg (.p 7)⟩])
 .ret))⟩
def b_slices_IndexFunc_impl_Kind_impl_Kind_0 : AC := (.seq (.reg [⟨some 9, none, .bin .lss (.t 8) (.t 7)⟩])
 (.seq (.cond (.t 9) .skip (.exit 0))
 (.seq (.block 1 (.seq (.reg [⟨some 10, none, .mv (.p 8)⟩, ⟨some 5, none, .asg (.p 10)⟩])
 (.seq (.reg [⟨some 11, none, .rf (.t 1)⟩, ⟨some 12, none, .rf (.t 0)⟩, ⟨some 13, none, .mv (.p 5)⟩, ⟨some 14, none, .iaddr 6 (.a 12 0) (.t 13)⟩, ⟨some 15, none, .load true 6 (.a 14 0)⟩, ⟨some 16, none, .callv (.a 11 1) [.a 15 0]⟩])
 (.cond (.t 16) (.seq (.reg [⟨some 17, none, .mv (.p 5)⟩, ⟨some 4, none, .asg (.p 17)⟩])
 .ret) .skip))))
 (.reg [⟨some 18, none, .bin .add (.t 8) (.c (.int .i64 1))⟩, ⟨some 8, none, .mv (.p 18)⟩]))))
/-- slices.IndexFunc[[]impl.Kind,impl.Kind] -/
def a_slices_IndexFunc_impl_Kind_impl_Kind : AFn := ⟨2, 19, [.tmp 4], (.seq (.reg [⟨some 4, none, .asg (.c (.int .i64 0))⟩])
 (.seq (.seq (.reg [⟨some 6, none, .rf (.t 0)⟩, ⟨some 7, none, .len (.a 6 0)⟩, ⟨some 8, none, .mv (.c (.int .i64 0))⟩])
 (.block 0 (.loop [0, 1, 7, 8] [4] b_slices_IndexFunc_impl_Kind_impl_Kind_0)))
 (.seq (.reg [⟨some 4, none, .asg (.c (.int .i64 (-1)))⟩])
 .ret)))⟩
/-- impl.kindIndex$1 -/
def a_impl_kindIndex_1 : AFn := ⟨2, 8, [.tmp 3], (.seq (.reg [⟨some 2, none, .box (.t 0)⟩, ⟨some 3, none, .asg (.c (.bool false))⟩])
 (.seq (.reg [⟨some 4, none, .faddr 0 (.t 2)⟩, ⟨some 5, none, .load false 1 (.a 4 2)⟩, ⟨some 6, none, .load false 1 (.t 1)⟩, ⟨some 7, none, .bin .eql (.a 5 2) (.a 6 1)⟩, ⟨some 3, none, .asg (.p 7)⟩])
 .ret))⟩
def b_spec_zExerts_0 : AC := (.seq (.seq (.reg [⟨some 38, none, .mv (.p 10)⟩, ⟨some 39, none, .bin .lss (.t 38) (.c (.int .i64 6))⟩])
 (.cond (.t 39) .skip (.exit 0)))
 (.seq (.block 1 (.seq (.reg [⟨some 42, none, .faddr 7 (.t 4)⟩, ⟨some 43, none, .load true 5 (.a 42 4)⟩, ⟨some 44, none, .faddr 2 (.t 9)⟩, ⟨some 45, none, .load false 1 (.a 44 9)⟩, ⟨some 46, none, .mv (.p 10)⟩, ⟨some 47, none, .call n_spec_mNext [.a 43 4, .a 45 9, .t 46]⟩, ⟨some 48, none, .mv (.p 3)⟩, ⟨some 49, none, .bin .eql (.t 47) (.t 48)⟩])
 (.cond (.t 49) (.seq (.reg [⟨some 50, none, .faddr 7 (.t 4)⟩, ⟨some 51, none, .load true 5 (.a 50 4)⟩, ⟨some 52, none, .faddr 2 (.t 9)⟩, ⟨some 53, none, .load false 1 (.a 52 9)⟩, ⟨some 54, none, .mv (.p 10)⟩, ⟨some 55, none, .call n_spec_mRiver [.a 51 4, .a 53 9, .t 54]⟩, ⟨some 56, none, .un .not (.t 55)⟩, ⟨some 57, none, .mv (.p 56)⟩, ⟨some 58, some (57, false), .faddr 7 (.t 4)⟩, ⟨some 59, some (57, false), .load true 5 (.a 58 4)⟩, ⟨some 60, some (57, false), .faddr 2 (.t 9)⟩, ⟨some 61, some (57, false), .load false 1 (.a 60 9)⟩, ⟨some 62, some (57, false), .mv (.p 10)⟩, ⟨some 63, some (57, false), .call n_spec_mRoad [.a 59 4, .a 61 9, .t 62]⟩, ⟨some 64, none, .pick (.t 57) (.c (.bool true)) (.t 63)⟩, ⟨some 8, none, .asg (.p 64)⟩])
 .ret) .skip)))
 (.reg [⟨some 40, none, .mv (.p 10)⟩, ⟨some 41, none, .bin .add (.t 40) (.c (.int .i64 1))⟩, ⟨some 10, none, .asg (.p 41)⟩])))
/-- spec.zExerts -/
def a_spec_zExerts : AFn := ⟨4, 65, [.tmp 8], (.seq (.reg [⟨some 4, none, .box (.t 0)⟩, ⟨some 5, none, .box (.t 1)⟩, ⟨some 8, none, .asg (.c (.bool false))⟩])
 (.seq (.reg [⟨some 11, none, .faddr 2 (.t 5)⟩, ⟨some 12, none, .load false 1 (.a 11 5)⟩, ⟨some 13, none, .mv (.p 2)⟩, ⟨some 14, none, .iaddr 4 (.a 12 5) (.t 13)⟩, ⟨some 15, none, .load true 4 (.a 14 5)⟩, ⟨some 9, none, .alloc [.int .i64 0, .int .i64 0, .int .i64 0, .int .i64 0]⟩, ⟨none, none, .store 4 (.t 9) (.a 15 5)⟩])
 (.seq (.seq (.reg [⟨some 16, none, .faddr 2 (.t 9)⟩, ⟨some 17, none, .load false 1 (.a 16 9)⟩, ⟨some 18, none, .bin .lss (.a 17 9) (.c (.int .i64 0))⟩, ⟨some 19, none, .mv (.p 18)⟩, ⟨some 20, some (19, false), .faddr 0 (.t 4)⟩, ⟨some 21, some (19, false), .faddr 1 (.a 20 4)⟩, ⟨some 22, some (19, false), .load false 1 (.a 21 4)⟩, ⟨some 23, some (19, false), .faddr 1 (.t 9)⟩, ⟨some 24, some (19, false), .load false 1 (.a 23 9)⟩, ⟨some 25, some (19, false), .iaddr 6 (.a 22 4) (.a 24 9)⟩, ⟨some 26, some (19, false), .faddr 4 (.a 25 4)⟩, ⟨some 27, some (19, false), .load false 1 (.a 26 4)⟩, ⟨some 28, some (19, false), .un .not (.a 27 4)⟩, ⟨some 29, none, .pick (.t 19) (.c (.bool true)) (.t 28)⟩, ⟨some 30, none, .mv (.p 29)⟩, ⟨some 31, some (30, false), .load true 12 (.t 4)⟩, ⟨some 32, some (30, false), .faddr 1 (.t 9)⟩, ⟨some 33, some (30, false), .load false 1 (.a 32 9)⟩, ⟨some 34, some (30, false), .mv (.p 3)⟩, ⟨some 35, some (30, false), .call n_spec_bCost [.a 31 4, .a 33 9, .t 34]⟩, ⟨some 36, some (30, false), .bin .eql (.t 35) (.c (.int .i64 0))⟩, ⟨some 37, none, .pick (.t 30) (.c (.bool true)) (.t 36)⟩])
 (.cond (.t 37) (.seq (.reg [⟨some 8, none, .asg (.c (.bool false))⟩])
 .ret) .skip))
 (.seq (.seq (.reg [⟨some 10, none, .asg (.c (.int .i64 0))⟩])
 (.block 0 (.loop [3, 4, 9, 10] [8] b_spec_zExerts_0)))
 (.seq (.reg [⟨some 8, none, .asg (.c (.bool false))⟩])
 .ret)))))⟩
/-- impl.crossesFreely -/
def a_impl_crossesFreely : AFn := ⟨2, 16, [.tmp 4], (.seq (.reg [⟨some 2, none, .box (.t 0)⟩, ⟨some 4, none, .asg (.c (.bool false))⟩])
 (.seq (.reg [⟨some 5, none, .faddr 3 (.t 2)⟩, ⟨some 6, none, .load false 1 (.a 5 2)⟩, ⟨some 7, none, .mv (.p 1)⟩, ⟨some 8, none, .call n_slices_Contains_int_int [.a 6 2, .t 7]⟩, ⟨some 9, none, .un .not (.t 8)⟩, ⟨some 10, none, .mv (.p 9)⟩, ⟨some 11, some (10, false), .faddr 4 (.t 2)⟩, ⟨some 12, some (10, false), .load false 1 (.a 11 2)⟩, ⟨some 13, some (10, false), .mv (.p 1)⟩, ⟨some 14, some (10, false), .call n_slices_Contains_int_int [.a 12 2, .t 13]⟩, ⟨some 15, none, .pick (.t 10) (.c (.bool true)) (.t 14)⟩, ⟨some 4, none, .asg (.p 15)⟩])
 .ret))⟩
/-- spec.csPath -/
def a_spec_csPath : AFn := ⟨1, 10, [.tmp 2], (.seq (.reg [⟨some 2, none, .asg (.c (.bool false))⟩])
 (.seq (.reg [⟨some 3, none, .rf (.t 0)⟩, ⟨some 4, none, .len (.a 3 0)⟩, ⟨some 5, none, .bin .leq (.t 4) (.c (.int .i64 9))⟩, ⟨some 6, none, .mv (.p 5)⟩, ⟨some 7, some (6, true), .rf (.t 0)⟩, ⟨some 8, some (6, true), .call n_spec_l1All [.a 7 0, .c (.int .i64 0), .c (.int .i64 5)]⟩, ⟨some 9, none, .pick (.t 6) (.t 8) (.c (.bool false))⟩, ⟨some 2, none, .asg (.p 9)⟩])
 .ret))⟩
def b_spec_csCost_0 : AC := (.seq (.reg [⟨some 18, none, .bin .lss (.t 17) (.t 16)⟩])
 (.seq (.cond (.t 18) .skip (.exit 0))
 (.seq (.block 1 (.seq (.reg [⟨some 19, none, .iaddr 1 (.a 15 4) (.t 17)⟩, ⟨some 20, none, .load false 1 (.a 19 4)⟩, ⟨some 13, none, .asg (.p 20)⟩])
 (.seq (.reg [⟨some 21, none, .load true 12 (.t 5)⟩, ⟨some 22, none, .mv (.p 1)⟩, ⟨some 23, none, .mv (.p 3)⟩, ⟨some 24, none, .mv (.p 13)⟩, ⟨some 25, none, .mv (.p 2)⟩, ⟨some 26, none, .call n_spec_cStep [.a 21 5, .t 22, .t 23, .t 24, .t 25]⟩, ⟨some 14, none, .asg (.p 26)⟩])
 (.seq (.seq (.reg [⟨some 27, none, .mv (.p 14)⟩, ⟨some 28, none, .bin .eql (.t 27) (.c (.int .i64 0))⟩])
 (.cond (.t 28) (.seq (.reg [⟨some 10, none, .asg (.c (.int .i64 (-1)))⟩])
 .ret) .skip))
 (.seq (.reg [⟨some 29, none, .mv (.p 11)⟩, ⟨some 30, none, .mv (.p 14)⟩, ⟨some 31, none, .bin .add (.t 29) (.t 30)⟩, ⟨some 11, none, .asg (.p 31)⟩])
 (.reg [⟨some 32, none, .faddr 7 (.t 5)⟩, ⟨some 33, none, .load true 5 (.a 32 5)⟩, ⟨some 34, none, .mv (.p 3)⟩, ⟨some 35, none, .mv (.p 13)⟩, ⟨some 36, none, .call n_spec_mNext [.a 33 5, .t 34, .t 35]⟩, ⟨some 3, none, .asg (.p 36)⟩]))))))
 (.reg [⟨some 37, none, .bin .add (.t 17) (.c (.int .i64 1))⟩, ⟨some 17, none, .mv (.p 37)⟩]))))
/-- spec.csCost -/
def a_spec_csCost : AFn := ⟨5, 39, [.tmp 10], (.seq (.reg [⟨some 5, none, .box (.t 0)⟩, ⟨some 10, none, .asg (.c (.int .i64 0))⟩])
 (.seq (.reg [⟨some 11, none, .asg (.c (.int .i64 0))⟩])
 (.seq (.seq (.reg [⟨some 15, none, .rf (.t 4)⟩, ⟨some 16, none, .len (.a 15 4)⟩, ⟨some 17, none, .mv (.c (.int .i64 0))⟩])
 (.block 0 (.loop [1, 2, 3, 4, 5, 11, 15, 16, 17] [10, 11] b_spec_csCost_0)))
 (.seq (.reg [⟨some 38, none, .mv (.p 11)⟩, ⟨some 10, none, .asg (.p 38)⟩])
 .ret))))⟩
/-- impl.ownsUnit -/
def a_impl_ownsUnit : AFn := ⟨3, 31, [.tmp 6], (.seq (.reg [⟨some 3, none, .box (.t 0)⟩, ⟨some 6, none, .asg (.c (.bool false))⟩])
 (.seq (.reg [⟨some 7, none, .mv (.p 2)⟩, ⟨some 8, none, .faddr 2 (.t 3)⟩, ⟨some 9, none, .load false 1 (.a 8 3)⟩, ⟨some 10, none, .len (.a 9 3)⟩, ⟨some 11, none, .call n_impl_isIndex [.t 7, .t 10]⟩, ⟨some 12, none, .mv (.p 11)⟩, ⟨some 13, some (12, true), .faddr 2 (.t 3)⟩, ⟨some 14, some (12, true), .load false 1 (.a 13 3)⟩, ⟨some 15, some (12, true), .mv (.p 2)⟩, ⟨some 16, some (12, true), .iaddr 4 (.a 14 3) (.t 15)⟩, ⟨some 17, some (12, true), .faddr 0 (.a 16 3)⟩, ⟨some 18, some (12, true), .load false 1 (.a 17 3)⟩, ⟨some 19, some (12, true), .mv (.p 1)⟩, ⟨some 20, some (12, true), .bin .eql (.a 18 3) (.t 19)⟩, ⟨some 21, none, .pick (.t 12) (.t 20) (.c (.bool false))⟩, ⟨some 22, none, .mv (.p 21)⟩, ⟨some 23, some (22, true), .faddr 2 (.t 3)⟩, ⟨some 24, some (22, true), .load false 1 (.a 23 3)⟩, ⟨some 25, some (22, true), .mv (.p 2)⟩, ⟨some 26, some (22, true), .iaddr 4 (.a 24 3) (.t 25)⟩, ⟨some 27, some (22, true), .faddr 2 (.a 26 3)⟩, ⟨some 28, some (22, true), .load false 1 (.a 27 3)⟩, ⟨some 29, some (22, true), .bin .geq (.a 28 3) (.c (.int .i64 0))⟩, ⟨some 30, none, .pick (.t 22) (.t 29) (.c (.bool false))⟩, ⟨some 6, none, .asg (.p 30)⟩])
 .ret))⟩
/-- impl.PathCost -/
def a_impl_PathCost : AFn := ⟨5, 37, [.tmp 10, .tmp 11], (.seq (.reg [⟨some 5, none, .box (.t 0)⟩, ⟨some 10, none, .asg (.c (.int .i64 0))⟩, ⟨some 11, none, .asg (.c (.bool false))⟩])
 (.seq (.seq (.reg [⟨some 13, none, .load true 12 (.t 5)⟩, ⟨some 14, none, .mv (.p 1)⟩, ⟨some 15, none, .mv (.p 2)⟩, ⟨some 16, none, .mv (.p 3)⟩, ⟨some 17, none, .call n_impl_isMover [.a 13 5, .t 14, .t 15, .t 16]⟩, ⟨some 18, none, .un .not (.t 17)⟩, ⟨some 19, none, .mv (.p 18)⟩, ⟨some 20, some (19, false), .rf (.t 4)⟩, ⟨some 21, some (19, false), .call n_impl_isPath [.a 20 4]⟩, ⟨some 22, some (19, false), .un .not (.t 21)⟩, ⟨some 23, none, .pick (.t 19) (.c (.bool true)) (.t 22)⟩])
 (.cond (.t 23) (.seq (.reg [⟨some 10, none, .asg (.c (.int .i64 0))⟩, ⟨some 11, none, .asg (.c (.bool false))⟩])
 .ret) .skip))
 (.seq (.reg [⟨some 24, none, .load true 12 (.t 5)⟩, ⟨some 25, none, .mv (.p 1)⟩, ⟨some 26, none, .mv (.p 2)⟩, ⟨some 27, none, .mv (.p 3)⟩, ⟨some 28, none, .rf (.t 4)⟩, ⟨some 29, none, .call n_impl_costsAlong [.a 24 5, .t 25, .t 26, .t 27, .a 28 4]⟩, ⟨some 12, none, .asg (.t 29)⟩])
 (.seq (.seq (.reg [⟨some 30, none, .rf (.t 12)⟩, ⟨some 31, none, .len (.a 30 12)⟩, ⟨some 32, none, .rf (.t 4)⟩, ⟨some 33, none, .len (.a 32 4)⟩, ⟨some 34, none, .bin .lss (.t 31) (.t 33)⟩])
 (.cond (.t 34) (.seq (.reg [⟨some 10, none, .asg (.c (.int .i64 0))⟩, ⟨some 11, none, .asg (.c (.bool false))⟩])
 .ret) .skip))
 (.seq (.reg [⟨some 35, none, .rf (.t 12)⟩, ⟨some 36, none, .call n_impl_sumOf [.a 35 12]⟩, ⟨some 10, none, .asg (.p 36)⟩, ⟨some 11, none, .asg (.c (.bool true))⟩])
 .ret)))))⟩
def b_impl_neighboursOn_0 : AC := (.seq (.reg [⟨some 10, none, .bin .lss (.t 9) (.c (.int .i64 6))⟩])
 (.seq (.cond (.t 10) .skip (.exit 0))
 (.seq (.block 1 (.seq (.reg [⟨some 11, none, .mv (.p 9)⟩, ⟨some 6, none, .asg (.p 11)⟩])
 (.seq (.reg [⟨some 12, none, .load true 5 (.t 2)⟩, ⟨some 13, none, .mv (.p 1)⟩, ⟨some 14, none, .mv (.p 6)⟩, ⟨some 15, none, .call n_impl_nextTo [.a 12 2, .t 13, .t 14]⟩, ⟨some 7, none, .asg (.p 15)⟩])
 (.seq (.reg [⟨some 16, none, .mv (.p 7)⟩, ⟨some 17, none, .bin .geq (.t 16) (.c (.int .i64 0))⟩])
 (.cond (.t 17) (.reg [⟨some 18, none, .rf (.t 5)⟩, ⟨some 19, none, .mv (.p 7)⟩, ⟨some 20, none, .bslice 1 1 [.int .i64 0] [(0, .p 19)]⟩, ⟨some 21, none, .append 1 (.a 18 5) (.t 20)⟩, ⟨some 5, none, .asg (.t 21)⟩]) .skip)))))
 (.reg [⟨some 22, none, .bin .add (.t 9) (.c (.int .i64 1))⟩, ⟨some 9, none, .mv (.p 22)⟩]))))
/-- impl.neighboursOn -/
def a_impl_neighboursOn : AFn := ⟨2, 24, [.tmp 4], (.seq (.reg [⟨some 2, none, .box (.t 0)⟩, ⟨some 4, none, .asg (.c (.list true 1 []))⟩])
 (.seq (.reg [⟨some 8, none, .bslice 1 0 [.int .i64 0] []⟩, ⟨some 5, none, .asg (.t 8)⟩])
 (.seq (.seq (.reg [⟨some 9, none, .mv (.c (.int .i64 0))⟩])
 (.block 0 (.loop [1, 2, 5, 9] [4, 5] b_impl_neighboursOn_0)))
 (.seq (.reg [⟨some 23, none, .rf (.t 5)⟩, ⟨some 4, none, .asg (.a 23 5)⟩])
 .ret))))⟩
/-- impl.endOf -/
def a_impl_endOf : AFn := ⟨3, 36, [.tmp 6], (.seq (.reg [⟨some 3, none, .box (.t 0)⟩, ⟨some 4, none, .box (.t 1)⟩, ⟨some 5, none, .box (.t 2)⟩, ⟨some 6, none, .asg (.c (.int .i64 0))⟩])
 (.seq (.reg [⟨some 10, none, .faddr 2 (.t 4)⟩, ⟨some 11, none, .load false 1 (.a 10 4)⟩, ⟨some 12, none, .faddr 0 (.t 5)⟩, ⟨some 13, none, .load false 1 (.a 12 5)⟩, ⟨some 14, none, .iaddr 4 (.a 11 4) (.a 13 5)⟩, ⟨some 15, none, .faddr 2 (.a 14 4)⟩, ⟨some 16, none, .load false 1 (.a 15 4)⟩, ⟨some 7, none, .asg (.p 16)⟩])
 (.seq (.seq (.reg [⟨some 18, none, .faddr 7 (.t 3)⟩, ⟨some 19, none, .load true 5 (.a 18 3)⟩, ⟨some 20, none, .mv (.p 7)⟩, ⟨some 21, none, .faddr 1 (.t 5)⟩, ⟨some 22, none, .load false 1 (.a 21 5)⟩, ⟨some 23, none, .call n_impl_pathHexes [.a 19 3, .t 20, .a 22 5]⟩, ⟨some 17, none, .mv (.t 23)⟩, ⟨some 24, none, .extract (.t 17) 0⟩, ⟨some 25, none, .extract (.p 17) 1⟩, ⟨some 8, none, .asg (.t 24)⟩, ⟨some 9, none, .asg (.p 25)⟩])
 (.seq (.reg [⟨some 26, none, .rf (.t 8)⟩, ⟨some 27, none, .len (.a 26 8)⟩, ⟨some 28, none, .bin .gtr (.t 27) (.c (.int .i64 0))⟩])
 (.cond (.t 28) (.seq (.reg [⟨some 29, none, .rf (.t 8)⟩, ⟨some 30, none, .rf (.t 8)⟩, ⟨some 31, none, .len (.a 30 8)⟩, ⟨some 32, none, .bin .sub (.t 31) (.c (.int .i64 1))⟩, ⟨some 33, none, .iaddr 1 (.a 29 8) (.t 32)⟩, ⟨some 34, none, .load false 1 (.a 33 8)⟩, ⟨some 6, none, .asg (.p 34)⟩])
 .ret) .skip)))
 (.seq (.reg [⟨some 35, none, .mv (.p 7)⟩, ⟨some 6, none, .asg (.p 35)⟩])
 .ret))))⟩
/-- impl.isMover -/
def a_impl_isMover : AFn := ⟨4, 22, [.tmp 8], (.seq (.reg [⟨some 4, none, .box (.t 0)⟩, ⟨some 8, none, .asg (.c (.bool false))⟩])
 (.seq (.reg [⟨some 9, none, .load true 12 (.t 4)⟩, ⟨some 10, none, .mv (.p 1)⟩, ⟨some 11, none, .call n_impl_isKindOf [.a 9 4, .t 10]⟩, ⟨some 12, none, .mv (.p 11)⟩, ⟨some 13, some (12, true), .mv (.p 2)⟩, ⟨some 14, some (12, true), .call n_impl_isWeather [.t 13]⟩, ⟨some 15, none, .pick (.t 12) (.t 14) (.c (.bool false))⟩, ⟨some 16, none, .mv (.p 15)⟩, ⟨some 17, some (16, true), .mv (.p 3)⟩, ⟨some 18, some (16, true), .load true 12 (.t 4)⟩, ⟨some 19, some (16, true), .call n_impl_sizeOf [.a 18 4]⟩, ⟨some 20, some (16, true), .call n_impl_isIndex [.t 17, .t 19]⟩, ⟨some 21, none, .pick (.t 16) (.t 20) (.c (.bool false))⟩, ⟨some 8, none, .asg (.p 21)⟩])
 .ret))⟩
def b_impl_costsAlong_0 : AC := (.seq (.reg [⟨some 19, none, .bin .lss (.t 18) (.t 17)⟩])
 (.seq (.cond (.t 19) .skip (.exit 0))
 (.seq (.block 1 (.seq (.reg [⟨some 20, none, .iaddr 1 (.a 16 4) (.t 18)⟩, ⟨some 21, none, .load false 1 (.a 20 4)⟩, ⟨some 13, none, .asg (.p 21)⟩])
 (.seq (.reg [⟨some 22, none, .load true 12 (.t 5)⟩, ⟨some 23, none, .mv (.p 1)⟩, ⟨some 24, none, .mv (.p 2)⟩, ⟨some 25, none, .mv (.p 3)⟩, ⟨some 26, none, .mv (.p 13)⟩, ⟨some 27, none, .call n_impl_stepCost [.a 22 5, .t 23, .t 24, .t 25, .t 26]⟩, ⟨some 14, none, .asg (.p 27)⟩])
 (.seq (.seq (.reg [⟨some 28, none, .mv (.p 14)⟩, ⟨some 29, none, .bin .eql (.t 28) (.c (.int .i64 0))⟩])
 (.cond (.t 29) (.exit 0) .skip))
 (.seq (.reg [⟨some 30, none, .rf (.t 11)⟩, ⟨some 31, none, .mv (.p 14)⟩, ⟨some 32, none, .bslice 1 1 [.int .i64 0] [(0, .p 31)]⟩, ⟨some 33, none, .append 1 (.a 30 11) (.t 32)⟩, ⟨some 11, none, .asg (.t 33)⟩])
 (.reg [⟨some 34, none, .faddr 7 (.t 5)⟩, ⟨some 35, none, .load true 5 (.a 34 5)⟩, ⟨some 36, none, .mv (.p 3)⟩, ⟨some 37, none, .mv (.p 13)⟩, ⟨some 38, none, .call n_impl_nextTo [.a 35 5, .t 36, .t 37]⟩, ⟨some 3, none, .asg (.p 38)⟩]))))))
 (.reg [⟨some 39, none, .bin .add (.t 18) (.c (.int .i64 1))⟩, ⟨some 18, none, .mv (.p 39)⟩]))))
/-- impl.costsAlong -/
def a_impl_costsAlong : AFn := ⟨5, 41, [.tmp 10], (.seq (.reg [⟨some 5, none, .box (.t 0)⟩, ⟨some 10, none, .asg (.c (.list true 1 []))⟩])
 (.seq (.reg [⟨some 15, none, .bslice 1 0 [.int .i64 0] []⟩, ⟨some 11, none, .asg (.t 15)⟩])
 (.seq (.seq (.reg [⟨some 16, none, .rf (.t 4)⟩, ⟨some 17, none, .len (.a 16 4)⟩, ⟨some 18, none, .mv (.c (.int .i64 0))⟩])
 (.block 0 (.loop [1, 2, 3, 4, 5, 11, 16, 17, 18] [10, 11] b_impl_costsAlong_0)))
 (.seq (.reg [⟨some 40, none, .rf (.t 11)⟩, ⟨some 10, none, .asg (.a 40 11)⟩])
 .ret))))⟩
def b_impl_sumOf_0 : AC := (.seq (.reg [⟨some 9, none, .bin .lss (.t 8) (.t 7)⟩])
 (.seq (.cond (.t 9) .skip (.exit 0))
 (.seq (.block 1 (.seq (.reg [⟨some 10, none, .iaddr 1 (.a 6 0) (.t 8)⟩, ⟨some 11, none, .load false 1 (.a 10 0)⟩, ⟨some 5, none, .asg (.p 11)⟩])
 (.reg [⟨some 12, none, .mv (.p 3)⟩, ⟨some 13, none, .mv (.p 5)⟩, ⟨some 14, none, .bin .add (.t 12) (.t 13)⟩, ⟨some 3, none, .asg (.p 14)⟩])))
 (.reg [⟨some 15, none, .bin .add (.t 8) (.c (.int .i64 1))⟩, ⟨some 8, none, .mv (.p 15)⟩]))))
/-- impl.sumOf -/
def a_impl_sumOf : AFn := ⟨1, 17, [.tmp 2], (.seq (.reg [⟨some 2, none, .asg (.c (.int .i64 0))⟩])
 (.seq (.reg [⟨some 3, none, .asg (.c (.int .i64 0))⟩])
 (.seq (.seq (.reg [⟨some 6, none, .rf (.t 0)⟩, ⟨some 7, none, .len (.a 6 0)⟩, ⟨some 8, none, .mv (.c (.int .i64 0))⟩])
 (.block 0 (.loop [0, 3, 6, 7, 8] [2, 3] b_impl_sumOf_0)))
 (.seq (.reg [⟨some 16, none, .mv (.p 3)⟩, ⟨some 2, none, .asg (.p 16)⟩])
 .ret))))⟩
/-- impl.isKindOf -/
def a_impl_isKindOf : AFn := ⟨2, 15, [.tmp 4], (.seq (.reg [⟨some 2, none, .box (.t 0)⟩, ⟨some 4, none, .asg (.c (.bool false))⟩])
 (.seq (.reg [⟨some 5, none, .load true 12 (.t 2)⟩, ⟨some 6, none, .call n_impl_IsBoard [.a 5 2]⟩, ⟨some 7, none, .mv (.p 6)⟩, ⟨some 8, some (7, true), .mv (.p 1)⟩, ⟨some 9, some (7, true), .faddr 0 (.t 2)⟩, ⟨some 10, some (7, true), .faddr 1 (.a 9 2)⟩, ⟨some 11, some (7, true), .load false 1 (.a 10 2)⟩, ⟨some 12, some (7, true), .len (.a 11 2)⟩, ⟨some 13, some (7, true), .call n_impl_isIndex [.t 8, .t 12]⟩, ⟨some 14, none, .pick (.t 7) (.t 13) (.c (.bool false))⟩, ⟨some 4, none, .asg (.p 14)⟩])
 .ret))⟩
/-- impl.isWeather -/
def a_impl_isWeather : AFn := ⟨1, 5, [.tmp 2], (.seq (.reg [⟨some 2, none, .asg (.c (.bool false))⟩])
 (.seq (.reg [⟨some 3, none, .mv (.p 0)⟩, ⟨some 4, none, .call n_impl_inRange [.t 3, .c (.int .i64 0), .c (.int .i64 2)]⟩, ⟨some 2, none, .asg (.p 4)⟩])
 .ret))⟩
end Go.Abs.W
