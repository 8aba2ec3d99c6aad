/- The abstract code of the functions. -/
import Derived.Test.YtcknpclhcilmaabA2
set_option maxRecDepth 100000
namespace Go.Abs.W
open Go Go.Abs
def n_gosem_cut_init : Nat := 2
def n_laws_FnExactOrderOf : Nat := 3
def n_laws_szSheet : Nat := 4
def n_spec_OrderOf : Nat := 5
def n_laws_toSheet : Nat := 6
def n_impl_OrderOf : Nat := 7
def n_laws_eqOrder : Nat := 8
def n_laws_eqSheet : Nat := 9
def n_laws_markSheet : Nat := 10
def n_laws_markOrder : Nat := 11
def n_laws_heldOrder : Nat := 12
def n_laws_szOrderS : Nat := 13
def n_spec_oOwn : Nat := 14
def n_laws_toOrderS : Nat := 15
def n_impl_orderPlace : Nat := 16
def n_impl_cloneOrder : Nat := 17
def n_laws_eqIntS : Nat := 18
def n_laws_eqOrderS : Nat := 19
def n_laws_markOrderS : Nat := 20
def n_laws_markIntS : Nat := 21
def n_laws_heldIntS : Nat := 22
def n_laws_szOrder : Nat := 23
def n_spec_l1Own : Nat := 24
def n_laws_toOrder : Nat := 25
def n_slices_IndexFunc_impl_Order_impl_Order : Nat := 26
def n_impl_orderPlace_1 : Nat := 27
def n_slices_Clone_int_int : Nat := 28
def n_laws_szIntS : Nat := 29
def n_laws_toIntS : Nat := 30
/-- laws.FnExactOrderOf -/
def a_laws_FnExactOrderOf : AFn := ⟨2, 101, [.tmp 4], (.seq (.reg [⟨some 2, none, .box (.t 0)⟩, ⟨some 4, none, .asg (.c (.bool false))⟩])
 (.seq (.reg [⟨some 5, none, .asg (.c (.int .i64 1048576))⟩])
 (.seq (.reg [⟨some 16, none, .load true 2 (.t 2)⟩, ⟨some 17, none, .mv (.p 5)⟩, ⟨some 18, none, .call n_laws_szSheet [.a 16 2, .t 17]⟩, ⟨some 5, none, .asg (.p 18)⟩])
 (.seq (.seq (.reg [⟨some 19, none, .mv (.p 5)⟩, ⟨some 20, none, .bin .lss (.t 19) (.c (.int .i64 0))⟩])
 (.cond (.t 20) (.seq (.reg [⟨some 4, none, .asg (.c (.bool true))⟩])
 .ret) .skip))
 (.seq (.reg [⟨some 22, none, .load true 2 (.t 2)⟩, ⟨some 23, none, .call n_laws_toSheet [.a 22 2]⟩, ⟨some 24, none, .mv (.p 1)⟩, ⟨some 25, none, .call n_spec_OrderOf [.t 23, .t 24]⟩, ⟨some 21, none, .mv (.t 25)⟩, ⟨some 26, none, .extract (.t 21) 0⟩, ⟨some 27, none, .extract (.p 21) 1⟩, ⟨some 6, none, .alloc [.int .i64 0, .list true 1 [], .int .i64 0]⟩, ⟨none, none, .store 3 (.t 6) (.t 26)⟩, ⟨some 7, none, .asg (.p 27)⟩])
 (.seq (.reg [⟨some 28, none, .load true 2 (.t 2)⟩, ⟨some 29, none, .call n_laws_toSheet [.a 28 2]⟩, ⟨some 8, none, .alloc [.int .i64 0, .list true 3 []]⟩, ⟨none, none, .store 2 (.t 8) (.t 29)⟩])
 (.seq (.reg [⟨some 31, none, .load true 2 (.t 8)⟩, ⟨some 32, none, .mv (.p 1)⟩, ⟨some 33, none, .call n_impl_OrderOf [.a 31 8, .t 32]⟩, ⟨some 30, none, .mv (.t 33)⟩, ⟨some 34, none, .extract (.t 30) 0⟩, ⟨some 35, none, .extract (.p 30) 1⟩, ⟨some 9, none, .alloc [.int .i64 0, .list true 1 [], .int .i64 0]⟩, ⟨none, none, .store 3 (.t 9) (.t 34)⟩, ⟨some 10, none, .asg (.p 35)⟩])
 (.seq (.seq (.reg [⟨some 36, none, .load true 3 (.t 9)⟩, ⟨some 37, none, .load true 3 (.t 6)⟩, ⟨some 38, none, .call n_laws_eqOrder [.a 36 9, .a 37 6]⟩, ⟨some 39, none, .un .not (.t 38)⟩, ⟨some 40, none, .mv (.p 39)⟩, ⟨some 41, some (40, false), .mv (.p 10)⟩, ⟨some 42, some (40, false), .mv (.p 7)⟩, ⟨some 43, some (40, false), .beq true (.t 41) (.t 42)⟩, ⟨some 44, none, .pick (.t 40) (.c (.bool true)) (.t 43)⟩])
 (.cond (.t 44) (.seq (.reg [⟨some 4, none, .asg (.c (.bool false))⟩])
 .ret) .skip))
 (.seq (.seq (.reg [⟨some 45, none, .load true 2 (.t 8)⟩, ⟨some 46, none, .load true 2 (.t 2)⟩, ⟨some 47, none, .call n_laws_toSheet [.a 46 2]⟩, ⟨some 48, none, .call n_laws_eqSheet [.a 45 8, .t 47]⟩, ⟨some 49, none, .un .not (.t 48)⟩])
 (.cond (.t 49) (.seq (.reg [⟨some 4, none, .asg (.c (.bool false))⟩])
 .ret) .skip))
 (.seq (.reg [⟨some 11, none, .asg (.c (.int .i64 1))⟩])
 (.seq (.reg [⟨some 50, none, .load true 2 (.t 8)⟩, ⟨some 51, none, .mv (.p 11)⟩, ⟨some 52, none, .calli n_laws_markSheet 50 8 [.t 51]⟩, ⟨some 11, none, .asg (.p 52)⟩])
 (.seq (.seq (.reg [⟨some 53, none, .mv (.p 11)⟩, ⟨some 54, none, .bin .lss (.t 53) (.c (.int .i64 0))⟩, ⟨some 55, none, .mv (.p 54)⟩, ⟨some 56, some (55, false), .load true 3 (.t 9)⟩, ⟨some 57, some (55, false), .load true 3 (.t 6)⟩, ⟨some 58, some (55, false), .call n_laws_eqOrder [.a 56 9, .a 57 6]⟩, ⟨some 59, some (55, false), .un .not (.t 58)⟩, ⟨some 60, none, .pick (.t 55) (.c (.bool true)) (.t 59)⟩, ⟨some 61, none, .mv (.p 60)⟩, ⟨some 62, some (61, false), .mv (.p 10)⟩, ⟨some 63, some (61, false), .mv (.p 7)⟩, ⟨some 64, some (61, false), .beq true (.t 62) (.t 63)⟩, ⟨some 65, none, .pick (.t 61) (.c (.bool true)) (.t 64)⟩])
 (.cond (.t 65) (.seq (.reg [⟨some 4, none, .asg (.c (.bool false))⟩])
 .ret) .skip))
 (.seq (.reg [⟨some 12, none, .asg (.c (.int .i64 1))⟩])
 (.seq (.reg [⟨some 66, none, .load true 3 (.t 9)⟩, ⟨some 67, none, .mv (.p 12)⟩, ⟨some 68, none, .calli n_laws_markOrder 66 9 [.t 67]⟩, ⟨some 12, none, .asg (.p 68)⟩])
 (.seq (.reg [⟨some 13, none, .asg (.c (.int .i64 1))⟩])
 (.seq (.reg [⟨some 69, none, .load true 3 (.t 9)⟩, ⟨some 70, none, .mv (.p 13)⟩, ⟨some 71, none, .call n_laws_heldOrder [.a 69 9, .t 70]⟩, ⟨some 13, none, .asg (.p 71)⟩])
 (.seq (.seq (.reg [⟨some 72, none, .mv (.p 13)⟩, ⟨some 73, none, .bin .lss (.t 72) (.c (.int .i64 0))⟩])
 (.cond (.t 73) (.seq (.reg [⟨some 4, none, .asg (.c (.bool false))⟩])
 .ret) .skip))
 (.seq (.seq (.reg [⟨some 74, none, .mv (.p 13)⟩, ⟨some 75, none, .mv (.p 12)⟩, ⟨some 76, none, .bin .neq (.t 74) (.t 75)⟩])
 (.cond (.t 76) (.seq (.reg [⟨some 4, none, .asg (.c (.bool false))⟩])
 .ret) .skip))
 (.seq (.reg [⟨some 78, none, .load true 2 (.t 2)⟩, ⟨some 79, none, .call n_laws_toSheet [.a 78 2]⟩, ⟨some 80, none, .mv (.p 1)⟩, ⟨some 81, none, .call n_impl_OrderOf [.t 79, .t 80]⟩, ⟨some 77, none, .mv (.t 81)⟩, ⟨some 82, none, .extract (.t 77) 0⟩, ⟨some 83, none, .extract (.p 77) 1⟩, ⟨some 14, none, .alloc [.int .i64 0, .list true 1 [], .int .i64 0]⟩, ⟨none, none, .store 3 (.t 14) (.t 82)⟩, ⟨some 15, none, .asg (.p 83)⟩])
 (.seq (.seq (.reg [⟨some 84, none, .load true 3 (.t 14)⟩, ⟨some 85, none, .load true 3 (.t 6)⟩, ⟨some 86, none, .call n_laws_eqOrder [.a 84 14, .a 85 6]⟩, ⟨some 87, none, .un .not (.t 86)⟩, ⟨some 88, none, .mv (.p 87)⟩, ⟨some 89, some (88, false), .mv (.p 15)⟩, ⟨some 90, some (88, false), .mv (.p 7)⟩, ⟨some 91, some (88, false), .beq true (.t 89) (.t 90)⟩, ⟨some 92, none, .pick (.t 88) (.c (.bool true)) (.t 91)⟩])
 (.cond (.t 92) (.seq (.reg [⟨some 4, none, .asg (.c (.bool false))⟩])
 .ret) .skip))
 (.seq (.reg [⟨some 13, none, .asg (.c (.int .i64 1))⟩])
 (.seq (.reg [⟨some 93, none, .load true 3 (.t 9)⟩, ⟨some 94, none, .mv (.p 13)⟩, ⟨some 95, none, .call n_laws_heldOrder [.a 93 9, .t 94]⟩, ⟨some 13, none, .asg (.p 95)⟩])
 (.seq (.seq (.reg [⟨some 96, none, .mv (.p 13)⟩, ⟨some 97, none, .bin .lss (.t 96) (.c (.int .i64 0))⟩])
 (.cond (.t 97) (.seq (.reg [⟨some 4, none, .asg (.c (.bool false))⟩])
 .ret) .skip))
 (.seq (.seq (.reg [⟨some 98, none, .mv (.p 13)⟩, ⟨some 99, none, .mv (.p 12)⟩, ⟨some 100, none, .bin .neq (.t 98) (.t 99)⟩])
 (.cond (.t 100) (.seq (.reg [⟨some 4, none, .asg (.c (.bool false))⟩])
 .ret) .skip))
 (.seq (.reg [⟨some 4, none, .asg (.c (.bool true))⟩])
 .ret)))))))))))))))))))))))))⟩
/-- laws.szSheet -/
def a_laws_szSheet : AFn := ⟨2, 12, [.tmp 4], (.seq (.reg [⟨some 2, none, .box (.t 0)⟩, ⟨some 4, none, .asg (.c (.int .i64 0))⟩])
 (.seq (.reg [⟨some 5, none, .faddr 1 (.t 2)⟩, ⟨some 6, none, .load false 1 (.a 5 2)⟩, ⟨some 7, none, .mv (.p 1)⟩, ⟨some 8, none, .call n_laws_szOrderS [.a 6 2, .t 7]⟩, ⟨some 1, none, .asg (.p 8)⟩])
 (.seq (.seq (.reg [⟨some 9, none, .mv (.p 1)⟩, ⟨some 10, none, .bin .lss (.t 9) (.c (.int .i64 0))⟩])
 (.cond (.t 10) (.seq (.reg [⟨some 4, none, .asg (.c (.int .i64 (-1)))⟩])
 .ret) .skip))
 (.seq (.reg [⟨some 11, none, .mv (.p 1)⟩, ⟨some 4, none, .asg (.p 11)⟩])
 .ret))))⟩
def b_spec_OrderOf_0 : AC := (.seq (.reg [⟨some 12, none, .bin .lss (.t 11) (.t 10)⟩])
 (.seq (.cond (.t 12) .skip (.exit 0))
 (.seq (.block 1 (.seq (.reg [⟨some 13, none, .iaddr 3 (.a 9 2) (.t 11)⟩, ⟨some 14, none, .load true 3 (.a 13 2)⟩, ⟨some 7, none, .alloc [.int .i64 0, .list true 1 [], .int .i64 0]⟩, ⟨none, none, .store 3 (.t 7) (.a 14 2)⟩])
 (.seq (.reg [⟨some 15, none, .faddr 0 (.t 7)⟩, ⟨some 16, none, .load false 1 (.a 15 7)⟩, ⟨some 17, none, .mv (.p 1)⟩, ⟨some 18, none, .bin .eql (.a 16 7) (.t 17)⟩])
 (.cond (.t 18) (.seq (.reg [⟨some 19, none, .load true 3 (.t 7)⟩, ⟨some 20, none, .call n_spec_oOwn [.a 19 7]⟩, ⟨none, none, .store 3 (.t 4) (.t 20)⟩, ⟨some 5, none, .asg (.c (.bool true))⟩])
 .ret) .skip))))
 (.reg [⟨some 21, none, .bin .add (.t 11) (.c (.int .i64 1))⟩, ⟨some 11, none, .mv (.p 21)⟩]))))
/-- spec.OrderOf -/
def a_spec_OrderOf : AFn := ⟨2, 23, [.cell 4 3 true, .tmp 5], (.seq (.reg [⟨some 2, none, .box (.t 0)⟩, ⟨some 4, none, .alloc [.int .i64 0, .list true 1 [], .int .i64 0]⟩, ⟨some 5, none, .asg (.c (.bool false))⟩])
 (.seq (.seq (.reg [⟨some 8, none, .faddr 1 (.t 2)⟩, ⟨some 9, none, .load false 1 (.a 8 2)⟩, ⟨some 10, none, .len (.a 9 2)⟩, ⟨some 11, none, .mv (.c (.int .i64 0))⟩])
 (.block 0 (.loop [1, 2, 4, 9, 10, 11] [4, 5] b_spec_OrderOf_0)))
 (.seq (.reg [⟨some 22, none, .build [.int .i64 0, .list true 1 [], .int .i64 0] []⟩, ⟨none, none, .store 3 (.t 4) (.t 22)⟩, ⟨some 5, none, .asg (.c (.bool false))⟩])
 .ret)))⟩
/-- laws.toSheet -/
def a_laws_toSheet : AFn := ⟨1, 12, [.cell 2 2 true], (.seq (.reg [⟨some 1, none, .box (.t 0)⟩, ⟨some 2, none, .alloc [.int .i64 0, .list true 3 []]⟩])
 (.seq (.reg [⟨some 3, none, .alloc [.int .i64 0, .list true 3 []]⟩])
 (.seq (.reg [⟨some 4, none, .faddr 0 (.t 1)⟩, ⟨some 5, none, .load false 1 (.a 4 1)⟩, ⟨some 6, none, .faddr 0 (.t 3)⟩, ⟨none, none, .store 1 (.a 6 3) (.p 5)⟩])
 (.seq (.reg [⟨some 7, none, .faddr 1 (.t 1)⟩, ⟨some 8, none, .load false 1 (.a 7 1)⟩, ⟨some 9, none, .call n_laws_toOrderS [.a 8 1]⟩, ⟨some 10, none, .faddr 1 (.t 3)⟩, ⟨none, none, .store 1 (.a 10 3) (.t 9)⟩])
 (.seq (.reg [⟨some 11, none, .load true 2 (.t 3)⟩, ⟨none, none, .store 2 (.t 2) (.a 11 3)⟩])
 .ret)))))⟩
/-- impl.OrderOf -/
def a_impl_OrderOf : AFn := ⟨2, 19, [.cell 4 3 true, .tmp 5], (.seq (.reg [⟨some 2, none, .box (.t 0)⟩, ⟨some 4, none, .alloc [.int .i64 0, .list true 1 [], .int .i64 0]⟩, ⟨some 5, none, .asg (.c (.bool false))⟩])
 (.seq (.reg [⟨some 7, none, .load true 2 (.t 2)⟩, ⟨some 8, none, .mv (.p 1)⟩, ⟨some 9, none, .call n_impl_orderPlace [.a 7 2, .t 8]⟩, ⟨some 6, none, .asg (.p 9)⟩])
 (.seq (.seq (.reg [⟨some 10, none, .mv (.p 6)⟩, ⟨some 11, none, .bin .lss (.t 10) (.c (.int .i64 0))⟩])
 (.cond (.t 11) (.seq (.reg [⟨some 12, none, .build [.int .i64 0, .list true 1 [], .int .i64 0] []⟩, ⟨none, none, .store 3 (.t 4) (.t 12)⟩, ⟨some 5, none, .asg (.c (.bool false))⟩])
 .ret) .skip))
 (.seq (.reg [⟨some 13, none, .faddr 1 (.t 2)⟩, ⟨some 14, none, .load false 1 (.a 13 2)⟩, ⟨some 15, none, .mv (.p 6)⟩, ⟨some 16, none, .iaddr 3 (.a 14 2) (.t 15)⟩, ⟨some 17, none, .load true 3 (.a 16 2)⟩, ⟨some 18, none, .call n_impl_cloneOrder [.a 17 2]⟩, ⟨none, none, .store 3 (.t 4) (.t 18)⟩, ⟨some 5, none, .asg (.c (.bool true))⟩])
 .ret))))⟩
/-- laws.eqOrder -/
def a_laws_eqOrder : AFn := ⟨2, 21, [.tmp 4], (.seq (.reg [⟨some 2, none, .box (.t 0)⟩, ⟨some 3, none, .box (.t 1)⟩, ⟨some 4, none, .asg (.c (.bool false))⟩])
 (.seq (.seq (.reg [⟨some 5, none, .faddr 0 (.t 2)⟩, ⟨some 6, none, .load false 1 (.a 5 2)⟩, ⟨some 7, none, .faddr 0 (.t 3)⟩, ⟨some 8, none, .load false 1 (.a 7 3)⟩, ⟨some 9, none, .bin .neq (.a 6 2) (.a 8 3)⟩])
 (.cond (.t 9) (.seq (.reg [⟨some 4, none, .asg (.c (.bool false))⟩])
 .ret) .skip))
 (.seq (.seq (.reg [⟨some 10, none, .faddr 1 (.t 2)⟩, ⟨some 11, none, .load false 1 (.a 10 2)⟩, ⟨some 12, none, .faddr 1 (.t 3)⟩, ⟨some 13, none, .load false 1 (.a 12 3)⟩, ⟨some 14, none, .call n_laws_eqIntS [.a 11 2, .a 13 3]⟩, ⟨some 15, none, .un .not (.t 14)⟩])
 (.cond (.t 15) (.seq (.reg [⟨some 4, none, .asg (.c (.bool false))⟩])
 .ret) .skip))
 (.seq (.seq (.reg [⟨some 16, none, .faddr 2 (.t 2)⟩, ⟨some 17, none, .load false 1 (.a 16 2)⟩, ⟨some 18, none, .faddr 2 (.t 3)⟩, ⟨some 19, none, .load false 1 (.a 18 3)⟩, ⟨some 20, none, .bin .neq (.a 17 2) (.a 19 3)⟩])
 (.cond (.t 20) (.seq (.reg [⟨some 4, none, .asg (.c (.bool false))⟩])
 .ret) .skip))
 (.seq (.reg [⟨some 4, none, .asg (.c (.bool true))⟩])
 .ret)))))⟩
/-- laws.eqSheet -/
def a_laws_eqSheet : AFn := ⟨2, 16, [.tmp 4], (.seq (.reg [⟨some 2, none, .box (.t 0)⟩, ⟨some 3, none, .box (.t 1)⟩, ⟨some 4, none, .asg (.c (.bool false))⟩])
 (.seq (.seq (.reg [⟨some 5, none, .faddr 0 (.t 2)⟩, ⟨some 6, none, .load false 1 (.a 5 2)⟩, ⟨some 7, none, .faddr 0 (.t 3)⟩, ⟨some 8, none, .load false 1 (.a 7 3)⟩, ⟨some 9, none, .bin .neq (.a 6 2) (.a 8 3)⟩])
 (.cond (.t 9) (.seq (.reg [⟨some 4, none, .asg (.c (.bool false))⟩])
 .ret) .skip))
 (.seq (.seq (.reg [⟨some 10, none, .faddr 1 (.t 2)⟩, ⟨some 11, none, .load false 1 (.a 10 2)⟩, ⟨some 12, none, .faddr 1 (.t 3)⟩, ⟨some 13, none, .load false 1 (.a 12 3)⟩, ⟨some 14, none, .call n_laws_eqOrderS [.a 11 2, .a 13 3]⟩, ⟨some 15, none, .un .not (.t 14)⟩])
 (.cond (.t 15) (.seq (.reg [⟨some 4, none, .asg (.c (.bool false))⟩])
 .ret) .skip))
 (.seq (.reg [⟨some 4, none, .asg (.c (.bool true))⟩])
 .ret))))⟩
/-- laws.markSheet -/
def a_laws_markSheet : AFn := ⟨2, 10, [.tmp 4, .io 0], (.seq (.reg [⟨some 2, none, .boxk 0⟩, ⟨some 4, none, .asg (.c (.int .i64 0))⟩])
 (.seq (.reg [⟨some 5, none, .faddr 1 (.t 2)⟩, ⟨some 6, none, .load false 1 (.a 5 2)⟩, ⟨some 7, none, .mv (.p 1)⟩, ⟨some 8, none, .calli n_laws_markOrderS 6 2 [.t 7]⟩, ⟨some 1, none, .asg (.p 8)⟩])
 (.seq (.reg [⟨some 9, none, .mv (.p 1)⟩, ⟨some 4, none, .asg (.p 9)⟩])
 .ret)))⟩
/-- laws.markOrder -/
def a_laws_markOrder : AFn := ⟨2, 10, [.tmp 4, .io 0], (.seq (.reg [⟨some 2, none, .boxk 0⟩, ⟨some 4, none, .asg (.c (.int .i64 0))⟩])
 (.seq (.reg [⟨some 5, none, .faddr 1 (.t 2)⟩, ⟨some 6, none, .load false 1 (.a 5 2)⟩, ⟨some 7, none, .mv (.p 1)⟩, ⟨some 8, none, .calli n_laws_markIntS 6 2 [.t 7]⟩, ⟨some 1, none, .asg (.p 8)⟩])
 (.seq (.reg [⟨some 9, none, .mv (.p 1)⟩, ⟨some 4, none, .asg (.p 9)⟩])
 .ret)))⟩
/-- laws.heldOrder -/
def a_laws_heldOrder : AFn := ⟨2, 12, [.tmp 4], (.seq (.reg [⟨some 2, none, .box (.t 0)⟩, ⟨some 4, none, .asg (.c (.int .i64 0))⟩])
 (.seq (.reg [⟨some 5, none, .faddr 1 (.t 2)⟩, ⟨some 6, none, .load false 1 (.a 5 2)⟩, ⟨some 7, none, .mv (.p 1)⟩, ⟨some 8, none, .call n_laws_heldIntS [.a 6 2, .t 7]⟩, ⟨some 1, none, .asg (.p 8)⟩])
 (.seq (.seq (.reg [⟨some 9, none, .mv (.p 1)⟩, ⟨some 10, none, .bin .lss (.t 9) (.c (.int .i64 0))⟩])
 (.cond (.t 10) (.seq (.reg [⟨some 4, none, .asg (.c (.int .i64 (-1)))⟩])
 .ret) .skip))
 (.seq (.reg [⟨some 11, none, .mv (.p 1)⟩, ⟨some 4, none, .asg (.p 11)⟩])
 .ret))))⟩
def b_laws_szOrderS_0 : AC := (.seq (.seq (.reg [⟨some 12, none, .mv (.p 5)⟩, ⟨some 13, none, .rf (.t 0)⟩, ⟨some 14, none, .len (.a 13 0)⟩, ⟨some 15, none, .bin .lss (.t 12) (.t 14)⟩])
 (.cond (.t 15) .skip (.exit 0)))
 (.seq (.block 1 (.seq (.reg [⟨some 18, none, .rf (.t 0)⟩, ⟨some 19, none, .mv (.p 5)⟩, ⟨some 20, none, .iaddr 3 (.a 18 0) (.t 19)⟩, ⟨some 21, none, .load true 3 (.a 20 0)⟩, ⟨some 22, none, .mv (.p 1)⟩, ⟨some 23, none, .call n_laws_szOrder [.a 21 0, .t 22]⟩, ⟨some 1, none, .asg (.p 23)⟩])
 (.seq (.reg [⟨some 24, none, .mv (.p 1)⟩, ⟨some 25, none, .bin .lss (.t 24) (.c (.int .i64 0))⟩])
 (.cond (.t 25) (.seq (.reg [⟨some 4, none, .asg (.c (.int .i64 (-1)))⟩])
 .ret) .skip))))
 (.reg [⟨some 16, none, .mv (.p 5)⟩, ⟨some 17, none, .bin .add (.t 16) (.c (.int .i64 1))⟩, ⟨some 5, none, .asg (.p 17)⟩])))
/-- laws.szOrderS -/
def a_laws_szOrderS : AFn := ⟨2, 27, [.tmp 4], (.seq (.reg [⟨some 4, none, .asg (.c (.int .i64 0))⟩])
 (.seq (.reg [⟨some 6, none, .mv (.p 1)⟩, ⟨some 7, none, .rf (.t 0)⟩, ⟨some 8, none, .len (.a 7 0)⟩, ⟨some 9, none, .bin .sub (.t 6) (.t 8)⟩, ⟨some 1, none, .asg (.p 9)⟩])
 (.seq (.seq (.reg [⟨some 10, none, .mv (.p 1)⟩, ⟨some 11, none, .bin .lss (.t 10) (.c (.int .i64 0))⟩])
 (.cond (.t 11) (.seq (.reg [⟨some 4, none, .asg (.c (.int .i64 (-1)))⟩])
 .ret) .skip))
 (.seq (.seq (.reg [⟨some 5, none, .asg (.c (.int .i64 0))⟩])
 (.block 0 (.loop [0, 1, 5] [1, 4] b_laws_szOrderS_0)))
 (.seq (.reg [⟨some 26, none, .mv (.p 1)⟩, ⟨some 4, none, .asg (.p 26)⟩])
 .ret)))))⟩
/-- spec.oOwn -/
def a_spec_oOwn : AFn := ⟨1, 11, [.cell 2 3 true], (.seq (.reg [⟨some 1, none, .box (.t 0)⟩, ⟨some 2, none, .alloc [.int .i64 0, .list true 1 [], .int .i64 0]⟩])
 (.seq (.reg [⟨some 3, none, .faddr 0 (.t 1)⟩, ⟨some 4, none, .load false 1 (.a 3 1)⟩, ⟨some 5, none, .faddr 1 (.t 1)⟩, ⟨some 6, none, .load false 1 (.a 5 1)⟩, ⟨some 7, none, .call n_spec_l1Own [.a 6 1]⟩, ⟨some 8, none, .faddr 2 (.t 1)⟩, ⟨some 9, none, .load false 1 (.a 8 1)⟩, ⟨some 10, none, .build [.int .i64 0, .list true 1 [], .int .i64 0] [(0, 1, .p 4), (1, 1, .t 7), (2, 1, .p 9)]⟩, ⟨none, none, .store 3 (.t 2) (.t 10)⟩])
 .ret))⟩
def b_laws_toOrderS_0 : AC := (.seq (.seq (.reg [⟨some 8, none, .mv (.p 4)⟩, ⟨some 9, none, .rf (.t 0)⟩, ⟨some 10, none, .len (.a 9 0)⟩, ⟨some 11, none, .bin .lss (.t 8) (.t 10)⟩])
 (.cond (.t 11) .skip (.exit 0)))
 (.seq (.block 1 (.reg [⟨some 14, none, .rf (.t 3)⟩, ⟨some 15, none, .mv (.p 4)⟩, ⟨some 16, none, .rf (.t 0)⟩, ⟨some 17, none, .mv (.p 4)⟩, ⟨some 18, none, .iaddr 3 (.a 16 0) (.t 17)⟩, ⟨some 19, none, .load true 3 (.a 18 0)⟩, ⟨some 20, none, .call n_laws_toOrder [.a 19 0]⟩, ⟨some 21, none, .iaddr 3 (.a 14 3) (.t 15)⟩, ⟨none, none, .store 3 (.a 21 3) (.t 20)⟩]))
 (.reg [⟨some 12, none, .mv (.p 4)⟩, ⟨some 13, none, .bin .add (.t 12) (.c (.int .i64 1))⟩, ⟨some 4, none, .asg (.p 13)⟩])))
/-- laws.toOrderS -/
def a_laws_toOrderS : AFn := ⟨1, 23, [.tmp 2], (.seq (.reg [⟨some 2, none, .asg (.c (.list true 3 []))⟩])
 (.seq (.reg [⟨some 5, none, .rf (.t 0)⟩, ⟨some 6, none, .len (.a 5 0)⟩, ⟨some 7, none, .mslice 3 [.int .i64 0, .list true 1 [], .int .i64 0] (.t 6)⟩, ⟨some 3, none, .asg (.t 7)⟩])
 (.seq (.seq (.reg [⟨some 4, none, .asg (.c (.int .i64 0))⟩])
 (.block 0 (.loop [0, 3, 4] [2, 3] b_laws_toOrderS_0)))
 (.seq (.reg [⟨some 22, none, .rf (.t 3)⟩, ⟨some 2, none, .asg (.a 22 3)⟩])
 .ret))))⟩
/-- impl.orderPlace -/
def a_impl_orderPlace : AFn := ⟨2, 9, [.tmp 4], (.seq (.reg [⟨some 2, none, .box (.t 0)⟩, ⟨some 3, none, .box (.p 1)⟩, ⟨some 4, none, .asg (.c (.int .i64 0))⟩])
 (.seq (.reg [⟨some 5, none, .faddr 1 (.t 2)⟩, ⟨some 6, none, .load false 1 (.a 5 2)⟩, ⟨some 7, none, .mkf n_impl_orderPlace_1 [.t 3]⟩, ⟨some 8, none, .call n_slices_IndexFunc_impl_Order_impl_Order [.a 6 2, .t 7]⟩, ⟨some 4, none, .asg (.p 8)⟩])
 .ret))⟩
/-- impl.cloneOrder -/
def a_impl_cloneOrder : AFn := ⟨1, 8, [.cell 2 3 true], (.seq (.reg [⟨some 1, none, .box (.t 0)⟩, ⟨some 2, none, .alloc [.int .i64 0, .list true 1 [], .int .i64 0]⟩])
 (.seq (.reg [⟨some 3, none, .faddr 1 (.t 1)⟩, ⟨some 4, none, .load false 1 (.a 3 1)⟩, ⟨some 5, none, .call n_slices_Clone_int_int [.a 4 1]⟩, ⟨some 6, none, .faddr 1 (.t 1)⟩, ⟨none, none, .store 1 (.a 6 1) (.t 5)⟩])
 (.seq (.reg [⟨some 7, none, .load true 3 (.t 1)⟩, ⟨none, none, .store 3 (.t 2) (.a 7 1)⟩])
 .ret)))⟩
def b_laws_eqIntS_0 : AC := (.seq (.seq (.reg [⟨some 11, none, .mv (.p 5)⟩, ⟨some 12, none, .rf (.t 0)⟩, ⟨some 13, none, .len (.a 12 0)⟩, ⟨some 14, none, .bin .lss (.t 11) (.t 13)⟩])
 (.cond (.t 14) .skip (.exit 0)))
 (.seq (.block 1 (.seq (.reg [⟨some 17, none, .rf (.t 0)⟩, ⟨some 18, none, .mv (.p 5)⟩, ⟨some 19, none, .iaddr 1 (.a 17 0) (.t 18)⟩, ⟨some 20, none, .load false 1 (.a 19 0)⟩, ⟨some 21, none, .rf (.t 1)⟩, ⟨some 22, none, .mv (.p 5)⟩, ⟨some 23, none, .iaddr 1 (.a 21 1) (.t 22)⟩, ⟨some 24, none, .load false 1 (.a 23 1)⟩, ⟨some 25, none, .bin .neq (.a 20 0) (.a 24 1)⟩])
 (.cond (.t 25) (.seq (.reg [⟨some 4, none, .asg (.c (.bool false))⟩])
 .ret) .skip)))
 (.reg [⟨some 15, none, .mv (.p 5)⟩, ⟨some 16, none, .bin .add (.t 15) (.c (.int .i64 1))⟩, ⟨some 5, none, .asg (.p 16)⟩])))
/-- laws.eqIntS -/
def a_laws_eqIntS : AFn := ⟨2, 26, [.tmp 4], (.seq (.reg [⟨some 4, none, .asg (.c (.bool false))⟩])
 (.seq (.seq (.reg [⟨some 6, none, .rf (.t 0)⟩, ⟨some 7, none, .len (.a 6 0)⟩, ⟨some 8, none, .rf (.t 1)⟩, ⟨some 9, none, .len (.a 8 1)⟩, ⟨some 10, none, .bin .neq (.t 7) (.t 9)⟩])
 (.cond (.t 10) (.seq (.reg [⟨some 4, none, .asg (.c (.bool false))⟩])
 .ret) .skip))
 (.seq (.seq (.reg [⟨some 5, none, .asg (.c (.int .i64 0))⟩])
 (.block 0 (.loop [0, 1, 5] [4] b_laws_eqIntS_0)))
 (.seq (.reg [⟨some 4, none, .asg (.c (.bool true))⟩])
 .ret))))⟩
def b_laws_eqOrderS_0 : AC := (.seq (.seq (.reg [⟨some 11, none, .mv (.p 5)⟩, ⟨some 12, none, .rf (.t 0)⟩, ⟨some 13, none, .len (.a 12 0)⟩, ⟨some 14, none, .bin .lss (.t 11) (.t 13)⟩])
 (.cond (.t 14) .skip (.exit 0)))
 (.seq (.block 1 (.seq (.reg [⟨some 17, none, .rf (.t 0)⟩, ⟨some 18, none, .mv (.p 5)⟩, ⟨some 19, none, .iaddr 3 (.a 17 0) (.t 18)⟩, ⟨some 20, none, .load true 3 (.a 19 0)⟩, ⟨some 21, none, .rf (.t 1)⟩, ⟨some 22, none, .mv (.p 5)⟩, ⟨some 23, none, .iaddr 3 (.a 21 1) (.t 22)⟩, ⟨some 24, none, .load true 3 (.a 23 1)⟩, ⟨some 25, none, .call n_laws_eqOrder [.a 20 0, .a 24 1]⟩, ⟨some 26, none, .un .not (.t 25)⟩])
 (.cond (.t 26) (.seq (.reg [⟨some 4, none, .asg (.c (.bool false))⟩])
 .ret) .skip)))
 (.reg [⟨some 15, none, .mv (.p 5)⟩, ⟨some 16, none, .bin .add (.t 15) (.c (.int .i64 1))⟩, ⟨some 5, none, .asg (.p 16)⟩])))
/-- laws.eqOrderS -/
def a_laws_eqOrderS : AFn := ⟨2, 27, [.tmp 4], (.seq (.reg [⟨some 4, none, .asg (.c (.bool false))⟩])
 (.seq (.seq (.reg [⟨some 6, none, .rf (.t 0)⟩, ⟨some 7, none, .len (.a 6 0)⟩, ⟨some 8, none, .rf (.t 1)⟩, ⟨some 9, none, .len (.a 8 1)⟩, ⟨some 10, none, .bin .neq (.t 7) (.t 9)⟩])
 (.cond (.t 10) (.seq (.reg [⟨some 4, none, .asg (.c (.bool false))⟩])
 .ret) .skip))
 (.seq (.seq (.reg [⟨some 5, none, .asg (.c (.int .i64 0))⟩])
 (.block 0 (.loop [0, 1, 5] [4] b_laws_eqOrderS_0)))
 (.seq (.reg [⟨some 4, none, .asg (.c (.bool true))⟩])
 .ret))))⟩
def b_laws_markOrderS_0 : AC := (.seq (.seq (.reg [⟨some 6, none, .mv (.p 5)⟩, ⟨some 7, none, .rf (.t 0)⟩, ⟨some 8, none, .len (.a 7 0)⟩, ⟨some 9, none, .bin .lss (.t 6) (.t 8)⟩])
 (.cond (.t 9) .skip (.exit 0)))
 (.seq (.block 1 (.seq (.reg [⟨some 12, none, .rf (.t 0)⟩, ⟨some 13, none, .mv (.p 5)⟩, ⟨some 14, none, .mv (.p 1)⟩, ⟨some 15, none, .iaddr 3 (.a 12 0) (.t 13)⟩, ⟨some 16, none, .faddr 0 (.a 15 0)⟩, ⟨none, none, .store 1 (.a 16 0) (.p 14)⟩])
 (.seq (.reg [⟨some 17, none, .mv (.p 1)⟩, ⟨some 18, none, .bin .add (.t 17) (.c (.int .i64 1))⟩, ⟨some 1, none, .asg (.p 18)⟩])
 (.seq (.reg [⟨some 19, none, .rf (.t 0)⟩, ⟨some 20, none, .mv (.p 5)⟩, ⟨some 21, none, .iaddr 3 (.a 19 0) (.t 20)⟩, ⟨some 22, none, .faddr 1 (.a 21 0)⟩, ⟨some 23, none, .load false 1 (.a 22 0)⟩, ⟨some 24, none, .mv (.p 1)⟩, ⟨some 25, none, .calli n_laws_markIntS 23 0 [.t 24]⟩, ⟨some 1, none, .asg (.p 25)⟩])
 (.seq (.reg [⟨some 26, none, .rf (.t 0)⟩, ⟨some 27, none, .mv (.p 5)⟩, ⟨some 28, none, .mv (.p 1)⟩, ⟨some 29, none, .iaddr 3 (.a 26 0) (.t 27)⟩, ⟨some 30, none, .faddr 2 (.a 29 0)⟩, ⟨none, none, .store 1 (.a 30 0) (.p 28)⟩])
 (.reg [⟨some 31, none, .mv (.p 1)⟩, ⟨some 32, none, .bin .add (.t 31) (.c (.int .i64 1))⟩, ⟨some 1, none, .asg (.p 32)⟩]))))))
 (.reg [⟨some 10, none, .mv (.p 5)⟩, ⟨some 11, none, .bin .add (.t 10) (.c (.int .i64 1))⟩, ⟨some 5, none, .asg (.p 11)⟩])))
/-- laws.markOrderS -/
def a_laws_markOrderS : AFn := ⟨2, 34, [.tmp 4, .io 0], (.seq (.reg [⟨some 4, none, .asg (.c (.int .i64 0))⟩])
 (.seq (.seq (.reg [⟨some 5, none, .asg (.c (.int .i64 0))⟩])
 (.block 0 (.loop [0, 1, 5] [0, 1, 4] b_laws_markOrderS_0)))
 (.seq (.reg [⟨some 33, none, .mv (.p 1)⟩, ⟨some 4, none, .asg (.p 33)⟩])
 .ret)))⟩
def b_laws_markIntS_0 : AC := (.seq (.seq (.reg [⟨some 6, none, .mv (.p 5)⟩, ⟨some 7, none, .rf (.t 0)⟩, ⟨some 8, none, .len (.a 7 0)⟩, ⟨some 9, none, .bin .lss (.t 6) (.t 8)⟩])
 (.cond (.t 9) .skip (.exit 0)))
 (.seq (.block 1 (.seq (.reg [⟨some 12, none, .rf (.t 0)⟩, ⟨some 13, none, .mv (.p 5)⟩, ⟨some 14, none, .mv (.p 1)⟩, ⟨some 15, none, .iaddr 1 (.a 12 0) (.t 13)⟩, ⟨none, none, .store 1 (.a 15 0) (.p 14)⟩])
 (.reg [⟨some 16, none, .mv (.p 1)⟩, ⟨some 17, none, .bin .add (.t 16) (.c (.int .i64 1))⟩, ⟨some 1, none, .asg (.p 17)⟩])))
 (.reg [⟨some 10, none, .mv (.p 5)⟩, ⟨some 11, none, .bin .add (.t 10) (.c (.int .i64 1))⟩, ⟨some 5, none, .asg (.p 11)⟩])))
/-- laws.markIntS -/
def a_laws_markIntS : AFn := ⟨2, 19, [.tmp 4, .io 0], (.seq (.reg [⟨some 4, none, .asg (.c (.int .i64 0))⟩])
 (.seq (.seq (.reg [⟨some 5, none, .asg (.c (.int .i64 0))⟩])
 (.block 0 (.loop [0, 1, 5] [0, 1, 4] b_laws_markIntS_0)))
 (.seq (.reg [⟨some 18, none, .mv (.p 1)⟩, ⟨some 4, none, .asg (.p 18)⟩])
 .ret)))⟩
def b_laws_heldIntS_0 : AC := (.seq (.seq (.reg [⟨some 6, none, .mv (.p 5)⟩, ⟨some 7, none, .rf (.t 0)⟩, ⟨some 8, none, .len (.a 7 0)⟩, ⟨some 9, none, .bin .lss (.t 6) (.t 8)⟩])
 (.cond (.t 9) .skip (.exit 0)))
 (.seq (.block 1 (.seq (.seq (.reg [⟨some 12, none, .rf (.t 0)⟩, ⟨some 13, none, .mv (.p 5)⟩, ⟨some 14, none, .iaddr 1 (.a 12 0) (.t 13)⟩, ⟨some 15, none, .load false 1 (.a 14 0)⟩, ⟨some 16, none, .mv (.p 1)⟩, ⟨some 17, none, .bin .neq (.a 15 0) (.t 16)⟩])
 (.cond (.t 17) (.seq (.reg [⟨some 4, none, .asg (.c (.int .i64 (-1)))⟩])
 .ret) .skip))
 (.reg [⟨some 18, none, .mv (.p 1)⟩, ⟨some 19, none, .bin .add (.t 18) (.c (.int .i64 1))⟩, ⟨some 1, none, .asg (.p 19)⟩])))
 (.reg [⟨some 10, none, .mv (.p 5)⟩, ⟨some 11, none, .bin .add (.t 10) (.c (.int .i64 1))⟩, ⟨some 5, none, .asg (.p 11)⟩])))
/-- laws.heldIntS -/
def a_laws_heldIntS : AFn := ⟨2, 21, [.tmp 4], (.seq (.reg [⟨some 4, none, .asg (.c (.int .i64 0))⟩])
 (.seq (.seq (.reg [⟨some 5, none, .asg (.c (.int .i64 0))⟩])
 (.block 0 (.loop [0, 1, 5] [1, 4] b_laws_heldIntS_0)))
 (.seq (.reg [⟨some 20, none, .mv (.p 1)⟩, ⟨some 4, none, .asg (.p 20)⟩])
 .ret)))⟩
/-- laws.szOrder -/
def a_laws_szOrder : AFn := ⟨2, 12, [.tmp 4], (.seq (.reg [⟨some 2, none, .box (.t 0)⟩, ⟨some 4, none, .asg (.c (.int .i64 0))⟩])
 (.seq (.reg [⟨some 5, none, .faddr 1 (.t 2)⟩, ⟨some 6, none, .load false 1 (.a 5 2)⟩, ⟨some 7, none, .mv (.p 1)⟩, ⟨some 8, none, .call n_laws_szIntS [.a 6 2, .t 7]⟩, ⟨some 1, none, .asg (.p 8)⟩])
 (.seq (.seq (.reg [⟨some 9, none, .mv (.p 1)⟩, ⟨some 10, none, .bin .lss (.t 9) (.c (.int .i64 0))⟩])
 (.cond (.t 10) (.seq (.reg [⟨some 4, none, .asg (.c (.int .i64 (-1)))⟩])
 .ret) .skip))
 (.seq (.reg [⟨some 11, none, .mv (.p 1)⟩, ⟨some 4, none, .asg (.p 11)⟩])
 .ret))))⟩
/-- spec.l1Own -/
def a_spec_l1Own : AFn := ⟨1, 6, [.tmp 2], (.seq (.reg [⟨some 2, none, .asg (.c (.list true 1 []))⟩])
 (.seq (.reg [⟨some 3, none, .bslice 1 0 [.int .i64 0] []⟩, ⟨some 4, none, .rf (.t 0)⟩, ⟨some 5, none, .append 1 (.t 3) (.p 4)⟩, ⟨some 2, none, .asg (.t 5)⟩])
 .ret))⟩
/-- laws.toOrder -/
def a_laws_toOrder : AFn := ⟨1, 15, [.cell 2 3 true], (.seq (.reg [⟨some 1, none, .box (.t 0)⟩, ⟨some 2, none, .alloc [.int .i64 0, .list true 1 [], .int .i64 0]⟩])
 (.seq (.reg [⟨some 3, none, .alloc [.int .i64 0, .list true 1 [], .int .i64 0]⟩])
 (.seq (.reg [⟨some 4, none, .faddr 0 (.t 1)⟩, ⟨some 5, none, .load false 1 (.a 4 1)⟩, ⟨some 6, none, .faddr 0 (.t 3)⟩, ⟨none, none, .store 1 (.a 6 3) (.p 5)⟩])
 (.seq (.reg [⟨some 7, none, .faddr 1 (.t 1)⟩, ⟨some 8, none, .load false 1 (.a 7 1)⟩, ⟨some 9, none, .call n_laws_toIntS [.a 8 1]⟩, ⟨some 10, none, .faddr 1 (.t 3)⟩, ⟨none, none, .store 1 (.a 10 3) (.t 9)⟩])
 (.seq (.reg [⟨some 11, none, .faddr 2 (.t 1)⟩, ⟨some 12, none, .load false 1 (.a 11 1)⟩, ⟨some 13, none, .faddr 2 (.t 3)⟩, ⟨none, none, .store 1 (.a 13 3) (.p 12)⟩])
 (.seq (.reg [⟨some 14, none, .load true 3 (.t 3)⟩, ⟨none, none, .store 3 (.t 2) (.a 14 3)⟩])
 .ret))))))⟩
def b_slices_IndexFunc_impl_Order_impl_Order_0 : AC := (.seq (.reg [⟨some 9, none, .bin .lss (.t 8) (.t 7)⟩])
 (.seq (.cond (.t 9) .skip (.exit 0))
 (.seq (.block 1 (.seq (.reg [⟨some 10, none, .mv (.p 8)⟩, ⟨some 5, none, .asg (.p 10)⟩])
 (.seq (.reg [⟨some 11, none, .rf (.t 1)⟩, ⟨some 12, none, .rf (.t 0)⟩, ⟨some 13, none, .mv (.p 5)⟩, ⟨some 14, none, .iaddr 3 (.a 12 0) (.t 13)⟩, ⟨some 15, none, .load true 3 (.a 14 0)⟩, ⟨some 16, none, .callv (.a 11 1) [.a 15 0]⟩])
 (.cond (.t 16) (.seq (.reg [⟨some 17, none, .mv (.p 5)⟩, ⟨some 4, none, .asg (.p 17)⟩])
 .ret) .skip))))
 (.reg [⟨some 18, none, .bin .add (.t 8) (.c (.int .i64 1))⟩, ⟨some 8, none, .mv (.p 18)⟩]))))
/-- slices.IndexFunc[[]impl.Order,impl.Order] -/
def a_slices_IndexFunc_impl_Order_impl_Order : AFn := ⟨2, 19, [.tmp 4], (.seq (.reg [⟨some 4, none, .asg (.c (.int .i64 0))⟩])
 (.seq (.seq (.reg [⟨some 6, none, .rf (.t 0)⟩, ⟨some 7, none, .len (.a 6 0)⟩, ⟨some 8, none, .mv (.c (.int .i64 0))⟩])
 (.block 0 (.loop [0, 1, 7, 8] [4] b_slices_IndexFunc_impl_Order_impl_Order_0)))
 (.seq (.reg [⟨some 4, none, .asg (.c (.int .i64 (-1)))⟩])
 .ret)))⟩
/-- impl.orderPlace$1 -/
def a_impl_orderPlace_1 : AFn := ⟨2, 8, [.tmp 3], (.seq (.reg [⟨some 2, none, .box (.t 0)⟩, ⟨some 3, none, .asg (.c (.bool false))⟩])
 (.seq (.reg [⟨some 4, none, .faddr 0 (.t 2)⟩, ⟨some 5, none, .load false 1 (.a 4 2)⟩, ⟨some 6, none, .load false 1 (.t 1)⟩, ⟨some 7, none, .bin .eql (.a 5 2) (.a 6 1)⟩, ⟨some 3, none, .asg (.p 7)⟩])
 .ret))⟩
/-- slices.Clone[[]int,int] -/
def a_slices_Clone_int_int : AFn := ⟨1, 8, [.tmp 2], (.seq (.reg [⟨some 2, none, .asg (.c (.list true 1 []))⟩])
 (.seq (.seq (.reg [⟨some 3, none, .rf (.t 0)⟩, ⟨some 4, none, .isnil (.a 3 0)⟩])
 (.condn 4 (.seq (.reg [⟨some 2, none, .asg (.c (.list true 1 []))⟩])
 .ret) .skip))
 (.seq (.reg [⟨some 5, none, .bslice 1 0 [.int .i64 0] []⟩, ⟨some 6, none, .rf (.t 0)⟩, ⟨some 7, none, .append 1 (.t 5) (.p 6)⟩, ⟨some 2, none, .asg (.t 7)⟩])
 .ret)))⟩
/-- laws.szIntS -/
def a_laws_szIntS : AFn := ⟨2, 12, [.tmp 4], (.seq (.reg [⟨some 4, none, .asg (.c (.int .i64 0))⟩])
 (.seq (.reg [⟨some 5, none, .mv (.p 1)⟩, ⟨some 6, none, .rf (.t 0)⟩, ⟨some 7, none, .len (.a 6 0)⟩, ⟨some 8, none, .bin .sub (.t 5) (.t 7)⟩, ⟨some 1, none, .asg (.p 8)⟩])
 (.seq (.seq (.reg [⟨some 9, none, .mv (.p 1)⟩, ⟨some 10, none, .bin .lss (.t 9) (.c (.int .i64 0))⟩])
 (.cond (.t 10) (.seq (.reg [⟨some 4, none, .asg (.c (.int .i64 (-1)))⟩])
 .ret) .skip))
 (.seq (.reg [⟨some 11, none, .mv (.p 1)⟩, ⟨some 4, none, .asg (.p 11)⟩])
 .ret))))⟩
def b_laws_toIntS_0 : AC := (.seq (.seq (.reg [⟨some 8, none, .mv (.p 4)⟩, ⟨some 9, none, .rf (.t 0)⟩, ⟨some 10, none, .len (.a 9 0)⟩, ⟨some 11, none, .bin .lss (.t 8) (.t 10)⟩])
 (.cond (.t 11) .skip (.exit 0)))
 (.seq (.block 1 (.reg [⟨some 14, none, .rf (.t 3)⟩, ⟨some 15, none, .mv (.p 4)⟩, ⟨some 16, none, .rf (.t 0)⟩, ⟨some 17, none, .mv (.p 4)⟩, ⟨some 18, none, .iaddr 1 (.a 16 0) (.t 17)⟩, ⟨some 19, none, .load false 1 (.a 18 0)⟩, ⟨some 20, none, .iaddr 1 (.a 14 3) (.t 15)⟩, ⟨none, none, .store 1 (.a 20 3) (.p 19)⟩]))
 (.reg [⟨some 12, none, .mv (.p 4)⟩, ⟨some 13, none, .bin .add (.t 12) (.c (.int .i64 1))⟩, ⟨some 4, none, .asg (.p 13)⟩])))
/-- laws.toIntS -/
def a_laws_toIntS : AFn := ⟨1, 22, [.tmp 2], (.seq (.reg [⟨some 2, none, .asg (.c (.list true 1 []))⟩])
 (.seq (.reg [⟨some 5, none, .rf (.t 0)⟩, ⟨some 6, none, .len (.a 5 0)⟩, ⟨some 7, none, .mslice 1 [.int .i64 0] (.t 6)⟩, ⟨some 3, none, .asg (.t 7)⟩])
 (.seq (.seq (.reg [⟨some 4, none, .asg (.c (.int .i64 0))⟩])
 (.block 0 (.loop [0, 3, 4] [2, 3] b_laws_toIntS_0)))
 (.seq (.reg [⟨some 21, none, .rf (.t 3)⟩, ⟨some 2, none, .asg (.a 21 3)⟩])
 .ret))))⟩
end Go.Abs.W
