/- Code of the program's functions, as operations of the abstract machine. -/
import Derived.Test.YtlgnmcfckgokdaaGreatDoorFa
namespace Fw.X
open Go
def f6.r0 : List IOper := [
⟨some 5, .box 3 (.t 2), none, []⟩,
⟨some 6, .mv (.c (.d (.bool false))), none, []⟩]
def f6.r1 : List IOper := [
⟨some 22, .call 11 [], none, []⟩,
⟨some 23, .un .not (.t 22), none, []⟩]
def f6.r2 : List IOper := [
⟨some 6, .mv (.c (.d (.bool false))), none, []⟩]
def f6.r3 : List IOper := [
⟨some 24, .call 16 [], none, []⟩,
⟨some 7, .mv (.t 24), none, []⟩]
def f6.r4 : List IOper := [
⟨some 26, .mv (.t 7), none, []⟩,
⟨some 27, .mv (.t 0), none, []⟩,
⟨some 28, .conv .i64 (.t 27), none, []⟩,
⟨some 29, .mv (.t 7), none, []⟩,
⟨some 30, .len .slice (.t 29), none, []⟩,
⟨some 31, .bin .rem (.t 28) (.t 30), none, []⟩,
⟨some 32, .iaddr 1 (.t 26) (.t 31), none, []⟩,
⟨some 33, .load 1 false (.t 32), none, []⟩,
⟨some 34, .call 17 [(.t 33)], none, []⟩,
⟨some 25, .mv (.t 34), none, []⟩,
⟨some 35, .ext (.t 25) 0, none, []⟩,
⟨some 36, .ext (.t 25) 1, none, []⟩,
⟨some 8, .alloc [.d (.str []), .d (.bool false), .d (.bool false), .d (.bool false), .nils, .nils, .d (.str []), .d (.str []), .nils, .nils], none, []⟩,
⟨none, .store 10 (.t 8) (.t 35), none, []⟩,
⟨some 9, .mv (.t 36), none, []⟩]
def f6.r5 : List IOper := [
⟨some 10, .mv (.c (.d (.int .i64 0))), none, []⟩]
def f6.r6 : List IOper := [
⟨some 37, .faddr 2 1 (.t 8), none, []⟩,
⟨some 38, .load 1 false (.t 37), none, []⟩]
def f6.r7 : List IOper := [
⟨some 39, .mv (.t 1), none, []⟩,
⟨some 40, .conv .i64 (.t 39), none, []⟩,
⟨some 41, .bin .rem (.t 40) (.c (.d (.int .i64 64))), none, []⟩,
⟨some 42, .bin .add (.c (.d (.int .i64 1))) (.t 41), none, []⟩,
⟨some 10, .mv (.t 42), none, []⟩]
def f6.r8 : List IOper := [
⟨some 44, .faddr 0 1 (.t 8), none, []⟩,
⟨some 45, .load 1 false (.t 44), none, []⟩,
⟨some 46, .mv (.t 10), none, []⟩,
⟨some 47, .call 18 [(.t 45), (.t 46)], none, []⟩,
⟨some 43, .mv (.t 47), none, []⟩,
⟨some 48, .ext (.t 43) 0, none, []⟩,
⟨some 49, .ext (.t 43) 1, none, []⟩,
⟨some 11, .alloc [.nils, .d (.str []), .d (.str []), .nils, .nils], none, []⟩,
⟨none, .store 5 (.t 11) (.t 48), none, []⟩,
⟨some 12, .mv (.t 49), none, []⟩]
def f6.r9 : List IOper := [
⟨some 50, .iaddrA 3 1 (.t 5) (.c (.d (.int .i64 0))), none, []⟩,
⟨some 51, .load 1 false (.t 50), none, []⟩,
⟨some 52, .conv .i64 (.t 51), none, []⟩,
⟨some 53, .bin .rem (.t 52) (.c (.d (.int .i64 61))), none, []⟩,
⟨some 54, .build [.d (.str []), .d (.int .i64 0)] [(0, 1, (.c (.d (.str [107])))), (1, 1, (.t 53))], none, []⟩,
⟨some 55, .iaddrA 3 1 (.t 5) (.c (.d (.int .i64 1))), none, []⟩,
⟨some 56, .load 1 false (.t 55), none, []⟩,
⟨some 57, .conv .i64 (.t 56), none, []⟩,
⟨some 58, .bin .rem (.t 57) (.c (.d (.int .i64 61))), none, []⟩,
⟨some 59, .build [.d (.str []), .d (.int .i64 0)] [(0, 1, (.c (.d (.str [109])))), (1, 1, (.t 58))], none, []⟩,
⟨some 60, .iaddrA 3 1 (.t 5) (.c (.d (.int .i64 2))), none, []⟩,
⟨some 61, .load 1 false (.t 60), none, []⟩,
⟨some 62, .conv .i64 (.t 61), none, []⟩,
⟨some 63, .bin .rem (.t 62) (.c (.d (.int .i64 61))), none, []⟩,
⟨some 64, .build [.d (.str []), .d (.int .i64 0)] [(0, 1, (.c (.d (.str [110])))), (1, 1, (.t 63))], none, []⟩,
⟨some 65, .mkSlice 2 3 [.d (.str []), .d (.int .i64 0), .d (.str []), .d (.int .i64 0), .d (.str []), .d (.int .i64 0)] [(0, 2, (.t 54)), (2, 2, (.t 59)), (4, 2, (.t 64))], none, []⟩,
⟨some 13, .mv (.t 65), none, []⟩]
def f6.r10 : List IOper := [
⟨some 14, .mv (.c (.d (.int .i64 0))), none, []⟩]
def f6.r11 : List IOper := [
⟨some 66, .mv (.t 14), none, []⟩,
⟨some 67, .faddr 4 1 (.t 11), none, []⟩,
⟨some 68, .load 1 false (.t 67), none, []⟩,
⟨some 69, .len .slice (.t 68), none, []⟩,
⟨some 70, .bin .lss (.t 66) (.t 69), none, []⟩]
def f6.r12 : List IOper := [
⟨some 74, .faddr 4 1 (.t 11), none, []⟩,
⟨some 75, .load 1 false (.t 74), none, []⟩,
⟨some 76, .mv (.t 14), none, []⟩,
⟨some 77, .iaddr 2 (.t 75) (.t 76), none, []⟩,
⟨some 78, .load 2 true (.t 77), none, []⟩,
⟨some 79, .mv (.t 13), none, []⟩,
⟨some 80, .call 24 [(.t 78), (.t 79)], none, []⟩,
⟨some 73, .mv (.t 80), none, []⟩,
⟨some 81, .ext (.t 73) 0, none, []⟩,
⟨some 82, .ext (.t 73) 1, none, []⟩,
⟨some 15, .mv (.t 81), none, []⟩,
⟨some 16, .mv (.t 82), none, []⟩]
def f6.r13 : List IOper := [
⟨some 83, .mv (.t 16), none, []⟩,
⟨some 84, .bin .neq (.t 83) (.c (.d (.int .i64 0))), none, []⟩,
⟨some 85, .mv (.t 84), none, []⟩,
⟨some 86, .mv (.t 15), some (85, false), []⟩,
⟨some 87, .bin .lss (.t 86) (.c (.d (.int .i64 0))), some (85, false), []⟩,
⟨some 88, .pick (.t 85) (.c (.d (.bool true))) (.t 87), none, []⟩]
def f6.r14 : List IOper := [
⟨some 89, .mv (.t 16), none, []⟩,
⟨some 90, .bin .eql (.t 89) (.c (.d (.int .i64 0))), none, []⟩,
⟨some 6, .mv (.t 90), none, []⟩]
def f6.r15 : List IOper := [
⟨some 71, .mv (.t 14), none, []⟩,
⟨some 72, .bin .add (.t 71) (.c (.d (.int .i64 1))), none, []⟩,
⟨some 14, .mv (.t 72), none, []⟩]
def f6.l16 : IR := (.seq (.seq (.region f6.r11) (.cond (.t 70) .skip (.exit 0))) (.seq (.block 1 (.seq (.region f6.r12) (.seq (.region f6.r13) (.cond (.t 88) (.seq (.region f6.r14) .ret) .skip)))) (.region f6.r15)))
def f6.r17 : List IOper := [
⟨some 91, .mkSlice 3 0 [] [], none, []⟩,
⟨some 92, .faddr 0 1 (.t 11), none, []⟩,
⟨some 93, .load 1 false (.t 92), none, [1]⟩,
⟨some 94, .append 3 56 (.t 91) (.t 93), none, [0, 2]⟩,
⟨some 95, .faddr 1 3 (.t 11), none, []⟩,
⟨some 96, .load 3 true (.t 95), none, [4]⟩,
⟨some 97, .mkSlice 3 1 [.d (.str []), .d (.str []), .nils] [(0, 3, (.t 96))], none, [5]⟩,
⟨some 98, .append 3 56 (.t 94) (.t 97), none, [3, 6, 3]⟩,
⟨some 17, .mv (.t 98), none, [7, 7, 0, 1, 2, 3, 4, 5, 6, 7]⟩]
def f6.r18 : List IOper := [
⟨some 18, .mv (.c (.d (.int .i64 0))), none, []⟩]
def f6.r19 : List IOper := [
⟨some 99, .mv (.t 18), none, []⟩,
⟨some 100, .mv (.t 17), none, []⟩,
⟨some 101, .len .slice (.t 100), none, []⟩,
⟨some 102, .bin .lss (.t 99) (.t 101), none, []⟩]
def f6.r20 : List IOper := [
⟨some 19, .mv (.c (.d (.int .i64 0))), none, []⟩]
def f6.r21 : List IOper := [
⟨some 105, .mv (.t 19), none, []⟩,
⟨some 106, .mv (.t 17), none, []⟩,
⟨some 107, .mv (.t 18), none, []⟩,
⟨some 108, .iaddr 3 (.t 106) (.t 107), none, []⟩,
⟨some 109, .faddr 1 2 (.t 108), none, []⟩,
⟨some 110, .faddr 1 1 (.t 109), none, []⟩,
⟨some 111, .load 1 false (.t 110), none, []⟩,
⟨some 112, .len .slice (.t 111), none, []⟩,
⟨some 113, .bin .lss (.t 105) (.t 112), none, []⟩]
def f6.r22 : List IOper := [
⟨some 117, .mv (.t 17), none, []⟩,
⟨some 118, .mv (.t 18), none, []⟩,
⟨some 119, .iaddr 3 (.t 117) (.t 118), none, []⟩,
⟨some 120, .faddr 1 2 (.t 119), none, []⟩,
⟨some 121, .faddr 1 1 (.t 120), none, []⟩,
⟨some 122, .load 1 false (.t 121), none, []⟩,
⟨some 123, .mv (.t 19), none, []⟩,
⟨some 124, .iaddr 2 (.t 122) (.t 123), none, []⟩,
⟨some 125, .load 2 true (.t 124), none, []⟩,
⟨some 126, .mv (.t 13), none, []⟩,
⟨some 127, .call 24 [(.t 125), (.t 126)], none, []⟩,
⟨some 116, .mv (.t 127), none, []⟩,
⟨some 128, .ext (.t 116) 0, none, []⟩,
⟨some 129, .ext (.t 116) 1, none, []⟩,
⟨some 20, .mv (.t 128), none, []⟩,
⟨some 21, .mv (.t 129), none, []⟩]
def f6.r23 : List IOper := [
⟨some 130, .mv (.t 21), none, []⟩,
⟨some 131, .bin .neq (.t 130) (.c (.d (.int .i64 0))), none, []⟩,
⟨some 132, .mv (.t 131), none, []⟩,
⟨some 133, .mv (.t 20), some (132, false), []⟩,
⟨some 134, .bin .lss (.t 133) (.c (.d (.int .i64 0))), some (132, false), []⟩,
⟨some 135, .pick (.t 132) (.c (.d (.bool true))) (.t 134), none, []⟩]
def f6.r24 : List IOper := [
⟨some 6, .mv (.c (.d (.bool false))), none, []⟩]
def f6.r25 : List IOper := [
⟨some 114, .mv (.t 19), none, []⟩,
⟨some 115, .bin .add (.t 114) (.c (.d (.int .i64 1))), none, []⟩,
⟨some 19, .mv (.t 115), none, []⟩]
def f6.l26 : IR := (.seq (.seq (.region f6.r21) (.cond (.t 113) .skip (.exit 4))) (.seq (.block 5 (.seq (.region f6.r22) (.seq (.region f6.r23) (.cond (.t 135) (.seq (.region f6.r24) .ret) .skip)))) (.region f6.r25)))
def f6.r27 : List IOper := [
⟨some 103, .mv (.t 18), none, []⟩,
⟨some 104, .bin .add (.t 103) (.c (.d (.int .i64 1))), none, []⟩,
⟨some 18, .mv (.t 104), none, []⟩]
def f6.l28 : IR := (.seq (.seq (.region f6.r19) (.cond (.t 102) .skip (.exit 2))) (.seq (.block 3 (.seq (.region f6.r20) (.block 4 (.loop f6.l26)))) (.region f6.r27)))
def f6.r29 : List IOper := [
⟨some 136, .mv (.t 12), none, []⟩,
⟨some 137, .bin .eql (.t 136) (.c (.d (.int .i64 0))), none, []⟩,
⟨some 6, .mv (.t 137), none, []⟩]
def f6 : IFn := ⟨3, 138, [.t 6], (.seq (.region f6.r0) (.seq (.seq (.region f6.r1) (.cond (.t 23) (.seq (.region f6.r2) .ret) .skip)) (.seq (.region f6.r3) (.seq (.region f6.r4) (.seq (.region f6.r5) (.seq (.seq (.region f6.r6) (.cond (.t 38) (.region f6.r7) .skip)) (.seq (.region f6.r8) (.seq (.region f6.r9) (.seq (.seq (.region f6.r10) (.block 0 (.loop f6.l16))) (.seq (.draw f6.r17) (.seq (.seq (.region f6.r18) (.block 2 (.loop f6.l28))) (.seq (.region f6.r29) .ret))))))))))))⟩
def f11.r0 : List IOper := [
⟨some 0, .mv (.c (.d (.bool false))), none, []⟩]
def f11.r1 : List IOper := [
⟨some 8, .build [.d (.int .i64 0), .nils] [(0, 1, (.c (.d (.int .i64 2))))], none, []⟩,
⟨some 1, .alloc [.d (.int .i64 0), .nils], none, []⟩,
⟨none, .store 2 (.t 1) (.t 8), none, []⟩]
def f11.r2 : List IOper := [
⟨some 9, .build [.d (.str []), .d (.int .i64 0)] [(0, 1, (.c (.d (.str [112])))), (1, 1, (.c (.d (.int .i64 1))))], none, []⟩,
⟨some 10, .mkSlice 2 1 [.d (.str []), .d (.int .i64 0)] [(0, 2, (.t 9))], none, []⟩,
⟨some 11, .build [.d (.int .i64 0), .nils] [(0, 1, (.c (.d (.int .i64 2)))), (1, 1, (.t 10))], none, []⟩,
⟨some 2, .alloc [.d (.int .i64 0), .nils], none, []⟩,
⟨none, .store 2 (.t 2) (.t 11), none, []⟩]
def f11.r3 : List IOper := [
⟨some 13, .load 2 true (.t 1), none, []⟩,
⟨some 14, .mkSlice 2 1 [.d (.int .i64 0), .nils] [(0, 2, (.t 13))], none, []⟩,
⟨some 15, .load 2 true (.t 2), none, []⟩,
⟨some 16, .build [.d (.int .i64 0), .d (.str []), .d (.int .i64 0), .nils, .d (.str []), .nils, .d (.str [])] [(0, 1, (.c (.d (.int .i64 1)))), (1, 1, (.c (.d (.str [110])))), (2, 2, (.t 15))], none, []⟩,
⟨some 17, .build [.d (.int .i64 0), .d (.str []), .d (.int .i64 0), .nils, .d (.str []), .nils, .d (.str [])] [(0, 1, (.c (.d (.int .i64 3)))), (1, 1, (.c (.d (.str [65])))), (6, 1, (.c (.d (.str [105, 110, 116]))))], none, []⟩,
⟨some 18, .mkSlice 7 2 [.d (.int .i64 0), .d (.str []), .d (.int .i64 0), .nils, .d (.str []), .nils, .d (.str []), .d (.int .i64 0), .d (.str []), .d (.int .i64 0), .nils, .d (.str []), .nils, .d (.str [])] [(0, 7, (.t 16)), (7, 7, (.t 17))], none, []⟩,
⟨some 19, .call 13 [(.c (.d (.str [116, 97, 107, 101]))), (.t 14), (.c (.d (.int .i64 0))), (.t 18)], none, []⟩,
⟨some 12, .mv (.t 19), none, []⟩,
⟨some 20, .ext (.t 12) 0, none, []⟩,
⟨some 21, .ext (.t 12) 1, none, []⟩,
⟨some 3, .alloc [.nils, .d (.str []), .d (.str []), .nils, .nils], none, []⟩,
⟨none, .store 5 (.t 3) (.t 20), none, []⟩,
⟨some 4, .mv (.t 21), none, []⟩]
def f11.r4 : List IOper := [
⟨some 23, .call 32 [(.c (.d (.str [37]))), (.c (.d (.bool false)))], none, []⟩,
⟨some 22, .mv (.t 23), none, []⟩,
⟨some 24, .ext (.t 22) 0, none, []⟩,
⟨some 25, .ext (.t 22) 1, none, []⟩,
⟨some 26, .ext (.t 22) 2, none, []⟩,
⟨some 5, .mv (.t 24), none, []⟩,
⟨some 6, .mv (.t 25), none, []⟩,
⟨some 7, .mv (.t 26), none, []⟩]
def f11.r5 : List IOper := [
⟨some 27, .mv (.t 4), none, []⟩,
⟨some 28, .bin .eql (.t 27) (.c (.d (.int .i64 0))), none, [0]⟩,
⟨some 29, .mv (.t 28), none, [1]⟩,
⟨some 30, .faddr 0 1 (.t 3), some (29, true), [2]⟩,
⟨some 31, .load 1 false (.t 30), some (29, true), [3, 2]⟩,
⟨some 32, .len .slice (.t 31), some (29, true), [4, 2]⟩,
⟨some 33, .bin .eql (.t 32) (.c (.d (.int .i64 1))), some (29, true), [5, 2]⟩,
⟨some 34, .pick (.t 29) (.t 33) (.c (.d (.bool false))), none, [2, 6]⟩,
⟨some 35, .mv (.t 34), none, [7, 2]⟩,
⟨some 36, .faddr 1 3 (.t 3), some (35, true), [8]⟩,
⟨some 37, .faddr 1 2 (.t 36), some (35, true), [9, 8]⟩,
⟨some 38, .faddr 1 1 (.t 37), some (35, true), [10, 8]⟩,
⟨some 39, .load 1 false (.t 38), some (35, true), [11, 8]⟩,
⟨some 40, .iaddr 2 (.t 39) (.c (.d (.int .i64 0))), some (35, true), [12, 8]⟩,
⟨some 41, .load 2 true (.t 40), some (35, true), [13, 8]⟩,
⟨some 42, .load 2 true (.t 1), some (35, true), [8]⟩,
⟨some 43, .call 46 [(.t 41), (.t 42)], some (35, true), [14, 15, 8, 8]⟩,
⟨some 44, .pick (.t 35) (.t 43) (.c (.d (.bool false))), none, [8, 16]⟩,
⟨some 45, .mv (.t 44), none, [17, 16]⟩,
⟨some 46, .faddr 0 1 (.t 3), some (45, true), [18]⟩,
⟨some 47, .load 1 false (.t 46), some (45, true), [19, 18]⟩,
⟨some 48, .iaddr 3 (.t 47) (.c (.d (.int .i64 0))), some (45, true), [20, 18]⟩,
⟨some 49, .faddr 1 2 (.t 48), some (45, true), [21, 18]⟩,
⟨some 50, .faddr 1 1 (.t 49), some (45, true), [22, 18]⟩,
⟨some 51, .load 1 false (.t 50), some (45, true), [23, 18]⟩,
⟨some 52, .iaddr 2 (.t 51) (.c (.d (.int .i64 0))), some (45, true), [24, 18]⟩,
⟨some 53, .load 2 true (.t 52), some (45, true), [25, 18]⟩,
⟨some 54, .load 2 true (.t 2), some (45, true), [18]⟩,
⟨some 55, .call 46 [(.t 53), (.t 54)], some (45, true), [26, 27, 18, 18]⟩,
⟨some 56, .pick (.t 45) (.t 55) (.c (.d (.bool false))), none, [18, 28]⟩,
⟨some 57, .mv (.t 56), none, [29, 28]⟩,
⟨some 58, .mv (.t 5), some (57, true), [30]⟩,
⟨some 59, .bin .eql (.t 58) (.c (.d (.str [109, 111, 100]))), some (57, true), [31, 30]⟩,
⟨some 60, .pick (.t 57) (.t 59) (.c (.d (.bool false))), none, [30, 32]⟩,
⟨some 61, .mv (.t 60), none, [33, 30]⟩,
⟨some 62, .mv (.t 6), some (61, true), [34]⟩,
⟨some 63, .bin .eql (.t 62) (.c (.d (.int .i64 5))), some (61, true), [35, 34]⟩,
⟨some 64, .pick (.t 61) (.t 63) (.c (.d (.bool false))), none, [34, 36]⟩,
⟨some 65, .mv (.t 64), none, [37, 34]⟩,
⟨some 66, .mv (.t 7), some (65, true), [38]⟩,
⟨some 67, .pick (.t 65) (.t 66) (.c (.d (.bool false))), none, [38, 39]⟩,
⟨some 68, .mv (.t 67), none, [40, 38]⟩,
⟨some 69, .call 16 [], some (68, true), [41, 41]⟩,
⟨some 70, .len .slice (.t 69), some (68, true), [42, 41]⟩,
⟨some 71, .bin .eql (.t 70) (.c (.d (.int .i64 34))), some (68, true), [43, 41]⟩,
⟨some 72, .pick (.t 68) (.t 71) (.c (.d (.bool false))), none, [41, 44]⟩,
⟨some 0, .mv (.t 72), none, [45, 42, 0, 1, 2, 3, 4, 5, 6, 7, 8, 9, 10, 11, 12, 13, 14, 15, 16, 17, 18, 19, 20, 21, 22, 23, 24, 25, 26, 27, 28, 29, 30, 31, 32, 33, 34, 35, 36, 37, 38, 39, 40, 41, 42, 43, 44, 45]⟩]
def f11 : IFn := ⟨0, 73, [.t 0], (.seq (.region f11.r0) (.seq (.region f11.r1) (.seq (.region f11.r2) (.seq (.region f11.r3) (.seq (.region f11.r4) (.seq (.draw f11.r5) .ret))))))⟩
def f13.r0 : List IOper := [
⟨some 8, .alloc [.nils, .d (.str []), .d (.str []), .nils, .nils], none, []⟩,
⟨some 9, .mv (.c (.d (.int .i64 0))), none, []⟩]
def f13.r1 : List IOper := [
⟨some 22, .mv (.t 0), none, []⟩,
⟨some 23, .mv (.t 2), none, []⟩,
⟨some 24, .call 18 [(.t 22), (.t 23)], none, []⟩,
⟨some 21, .mv (.t 24), none, []⟩,
⟨some 25, .ext (.t 21) 0, none, []⟩,
⟨some 26, .ext (.t 21) 1, none, []⟩,
⟨some 10, .alloc [.nils, .d (.str []), .d (.str []), .nils, .nils], none, []⟩,
⟨none, .store 5 (.t 10) (.t 25), none, []⟩,
⟨some 11, .mv (.t 26), none, []⟩]
def f13.r2 : List IOper := [
⟨some 27, .mv (.t 11), none, []⟩,
⟨some 28, .bin .neq (.t 27) (.c (.d (.int .i64 0))), none, []⟩]
def f13.r3 : List IOper := [
⟨some 29, .build [.nils, .d (.str []), .d (.str []), .nils, .nils] [], none, []⟩,
⟨some 30, .mv (.t 11), none, []⟩,
⟨none, .store 5 (.t 8) (.t 29), none, []⟩,
⟨some 9, .mv (.t 30), none, []⟩]
def f13.r4 : List IOper := [
⟨some 32, .mv (.t 0), none, []⟩,
⟨some 33, .call 17 [(.t 32)], none, []⟩,
⟨some 31, .mv (.t 33), none, []⟩,
⟨some 34, .ext (.t 31) 0, none, []⟩,
⟨some 35, .ext (.t 31) 1, none, []⟩,
⟨some 12, .alloc [.d (.str []), .d (.bool false), .d (.bool false), .d (.bool false), .nils, .nils, .d (.str []), .d (.str []), .nils, .nils], none, []⟩,
⟨none, .store 10 (.t 12) (.t 34), none, []⟩,
⟨some 13, .mv (.t 35), none, []⟩]
def f13.r5 : List IOper := [
⟨some 36, .mv (.t 1), none, []⟩,
⟨some 37, .len .slice (.t 36), none, []⟩,
⟨some 38, .faddr 4 1 (.t 12), none, []⟩,
⟨some 39, .load 1 false (.t 38), none, []⟩,
⟨some 40, .len .slice (.t 39), none, []⟩,
⟨some 41, .bin .neq (.t 37) (.t 40), none, []⟩]
def f13.r6 : List IOper := [
⟨some 42, .build [.nils, .d (.str []), .d (.str []), .nils, .nils] [], none, []⟩,
⟨none, .store 5 (.t 8) (.t 42), none, []⟩,
⟨some 9, .mv (.c (.d (.int .i64 1))), none, []⟩]
def f13.r7 : List IOper := [
⟨some 43, .mv (.t 3), none, []⟩,
⟨some 44, .call 47 [(.t 43)], none, []⟩,
⟨some 14, .mv (.t 44), none, []⟩]
def f13.r8 : List IOper := [
⟨some 45, .mv (.t 1), none, []⟩,
⟨some 46, .len .slice (.t 45), none, []⟩,
⟨some 47, .mv (.c (.d (.int .i64 0))), none, []⟩]
def f13.r9 : List IOper := [
⟨some 48, .bin .lss (.t 47) (.t 46), none, []⟩]
def f13.r10 : List IOper := [
⟨some 49, .mv (.t 47), none, []⟩,
⟨some 50, .iaddr 2 (.t 45) (.t 47), none, []⟩,
⟨some 51, .load 2 true (.t 50), none, []⟩,
⟨some 16, .alloc [.d (.int .i64 0), .nils], none, []⟩,
⟨some 15, .mv (.t 49), none, []⟩,
⟨none, .store 2 (.t 16) (.t 51), none, []⟩]
def f13.r11 : List IOper := [
⟨some 52, .load 2 true (.t 16), none, []⟩,
⟨some 53, .call 48 [(.t 52)], none, []⟩,
⟨some 54, .un .not (.t 53), none, []⟩]
def f13.r12 : List IOper := [
⟨some 55, .build [.nils, .d (.str []), .d (.str []), .nils, .nils] [], none, []⟩,
⟨none, .store 5 (.t 8) (.t 55), none, []⟩,
⟨some 9, .mv (.c (.d (.int .i64 1))), none, []⟩]
def f13.r13 : List IOper := [
⟨some 56, .mv (.t 14), none, []⟩,
⟨some 57, .faddr 4 1 (.t 12), none, []⟩,
⟨some 58, .load 1 false (.t 57), none, [1]⟩,
⟨some 59, .mv (.t 15), none, []⟩,
⟨some 60, .iaddr 1 (.t 58) (.t 59), none, [2, 3]⟩,
⟨some 61, .load 1 false (.t 60), none, [4]⟩,
⟨some 62, .load 2 true (.t 16), none, []⟩,
⟨some 63, .build [.d (.int .i64 0), .d (.str []), .d (.int .i64 0), .nils, .d (.str []), .nils, .d (.str [])] [(0, 1, (.c (.d (.int .i64 1)))), (1, 1, (.t 61)), (2, 2, (.t 62))], none, [5, 6]⟩,
⟨some 64, .mkSlice 7 1 [.d (.int .i64 0), .d (.str []), .d (.int .i64 0), .nils, .d (.str []), .nils, .d (.str [])] [(0, 7, (.t 63))], none, [7]⟩,
⟨some 65, .append 7 112 (.t 56) (.t 64), none, [0, 8]⟩,
⟨some 14, .mv (.t 65), none, [9, 9, 0, 1, 2, 3, 4, 5, 6, 7, 8, 9]⟩]
def f13.r14 : List IOper := [
⟨some 66, .bin .add (.t 47) (.c (.d (.int .i64 1))), none, []⟩,
⟨some 47, .mv (.t 66), none, []⟩]
def f13.l15 : IR := (.seq (.region f13.r9) (.seq (.cond (.t 48) .skip (.exit 0)) (.seq (.block 1 (.seq (.region f13.r10) (.seq (.seq (.region f13.r11) (.cond (.t 54) (.seq (.region f13.r12) .ret) .skip)) (.draw f13.r13)))) (.region f13.r14))))
def f13.r16 : List IOper := [
⟨some 67, .load 5 true (.t 10), none, []⟩,
⟨some 68, .call 49 [(.t 67)], none, []⟩,
⟨some 17, .mv (.t 68), none, []⟩]
def f13.r17 : List IOper := [
⟨some 18, .alloc [.nilf], none, []⟩,
⟨none, .store 1 (.t 18) (.f 50), none, []⟩]
def f13.r18 : List IOper := [
⟨some 69, .mv (.t 14), none, []⟩,
⟨some 70, .len .slice (.t 69), none, []⟩,
⟨some 71, .mv (.t 17), none, []⟩,
⟨some 72, .len .slice (.t 71), none, []⟩,
⟨some 73, .bin .neq (.t 70) (.t 72), none, []⟩]
def f13.r19 : List IOper := [
⟨some 74, .build [.nils, .d (.str []), .d (.str []), .nils, .nils] [], none, []⟩,
⟨none, .store 5 (.t 8) (.t 74), none, []⟩,
⟨some 9, .mv (.c (.d (.int .i64 1))), none, []⟩]
def f13.r20 : List IOper := [
⟨some 75, .mv (.t 17), none, []⟩,
⟨some 76, .len .slice (.t 75), none, []⟩,
⟨some 77, .mv (.c (.d (.int .i64 0))), none, []⟩]
def f13.r21 : List IOper := [
⟨some 78, .bin .lss (.t 77) (.t 76), none, []⟩]
def f13.r22 : List IOper := [
⟨some 79, .iaddr 7 (.t 75) (.t 77), none, []⟩,
⟨some 80, .load 7 true (.t 79), none, []⟩,
⟨some 20, .alloc [.d (.int .i64 0), .d (.str []), .d (.int .i64 0), .nils, .d (.str []), .nils, .d (.str [])], none, []⟩,
⟨none, .store 7 (.t 20) (.t 80), none, []⟩]
def f13.r23 : List IOper := [
⟨some 81, .mv (.t 14), none, []⟩,
⟨some 82, .mkfunc 52 [] [(.t 18), (.t 20)], none, []⟩,
⟨some 83, .call 51 [(.t 81), (.t 82)], none, []⟩,
⟨some 84, .un .not (.t 83), none, []⟩]
def f13.r24 : List IOper := [
⟨some 85, .build [.nils, .d (.str []), .d (.str []), .nils, .nils] [], none, []⟩,
⟨none, .store 5 (.t 8) (.t 85), none, []⟩,
⟨some 9, .mv (.c (.d (.int .i64 1))), none, []⟩]
def f13.r25 : List IOper := [
⟨some 86, .bin .add (.t 77) (.c (.d (.int .i64 1))), none, []⟩,
⟨some 77, .mv (.t 86), none, []⟩]
def f13.l26 : IR := (.seq (.region f13.r21) (.seq (.cond (.t 78) .skip (.exit 2)) (.seq (.block 3 (.seq (.region f13.r22) (.seq (.region f13.r23) (.cond (.t 84) (.seq (.region f13.r24) .ret) .skip)))) (.region f13.r25))))
def f13.r27 : List IOper := [
⟨some 87, .load 5 true (.t 10), none, []⟩,
⟨some 88, .mv (.t 14), none, []⟩,
⟨some 89, .call 53 [(.t 87), (.t 88)], none, []⟩,
⟨some 90, .ext (.t 89) 0, none, []⟩,
⟨some 91, .ext (.t 89) 1, none, []⟩,
⟨none, .store 5 (.t 8) (.t 90), none, []⟩,
⟨some 9, .mv (.t 91), none, []⟩]
def f13 : IFn := ⟨4, 92, [.cell 8 5 true, .t 9], (.seq (.region f13.r0) (.seq (.region f13.r1) (.seq (.seq (.region f13.r2) (.cond (.t 28) (.seq (.region f13.r3) .ret) .skip)) (.seq (.region f13.r4) (.seq (.seq (.region f13.r5) (.cond (.t 41) (.seq (.region f13.r6) .ret) .skip)) (.seq (.region f13.r7) (.seq (.seq (.region f13.r8) (.block 0 (.loop f13.l15))) (.seq (.region f13.r16) (.seq (.region f13.r17) (.seq (.seq (.region f13.r18) (.cond (.t 73) (.seq (.region f13.r19) .ret) .skip)) (.seq (.seq (.region f13.r20) (.block 2 (.loop f13.l26))) (.seq (.region f13.r27) .ret))))))))))))⟩
def f16.r0 : List IOper := [
⟨some 0, .mv (.c (.nils)), none, []⟩]
def f16.r1 : List IOper := [
⟨some 3, .mkSlice 1 1 [.d (.str [])] [(0, 1, (.c (.d (.str [99, 104, 117, 110, 107]))))], none, []⟩,
⟨some 1, .alloc [.nils], none, []⟩,
⟨none, .store 1 (.t 1) (.t 3), none, []⟩]
def f16.r2 : List IOper := [
⟨some 4, .mkfunc 57 [] [(.t 1)], none, []⟩,
⟨some 2, .mv (.t 4), none, []⟩]
def f16.r3 : List IOper := [
⟨some 5, .mv (.t 2), none, []⟩,
⟨some 6, .call 59 [], none, []⟩,
⟨some 7, .callv (.t 5) [(.t 6)], none, []⟩]
def f16.r4 : List IOper := [
⟨some 8, .mv (.t 2), none, []⟩,
⟨some 9, .call 60 [], none, []⟩,
⟨some 10, .callv (.t 8) [(.t 9)], none, []⟩]
def f16.r5 : List IOper := [
⟨some 11, .load 1 false (.t 1), none, []⟩,
⟨some 12, .call 61 [(.t 11)], none, []⟩]
def f16.r6 : List IOper := [
⟨some 13, .load 1 false (.t 1), none, []⟩,
⟨some 0, .mv (.t 13), none, []⟩]
def f16 : IFn := ⟨0, 14, [.t 0], (.seq (.region f16.r0) (.seq (.region f16.r1) (.seq (.region f16.r2) (.seq (.region f16.r3) (.seq (.region f16.r4) (.seq (.region f16.r5) (.seq (.region f16.r6) .ret)))))))⟩
def f17.r0 : List IOper := [
⟨some 2, .alloc [.d (.str []), .d (.bool false), .d (.bool false), .d (.bool false), .nils, .nils, .d (.str []), .d (.str []), .nils, .nils], none, []⟩,
⟨some 3, .mv (.c (.d (.bool false))), none, []⟩]
def f17.r1 : List IOper := [
⟨some 7, .mv (.t 0), none, []⟩,
⟨some 8, .build [.d (.str []), .d (.bool false), .d (.bool false), .d (.bool false), .nils, .nils, .d (.str []), .d (.str []), .nils, .nils] [(0, 1, (.t 7))], none, []⟩,
⟨some 4, .alloc [.d (.str []), .d (.bool false), .d (.bool false), .d (.bool false), .nils, .nils, .d (.str []), .d (.str []), .nils, .nils], none, []⟩,
⟨none, .store 10 (.t 4) (.t 8), none, []⟩]
def f17.r2 : List IOper := [
⟨some 10, .call 59 [], none, []⟩,
⟨some 11, .mv (.t 0), none, []⟩,
⟨some 12, .call 62 [(.t 10), (.t 11)], none, []⟩,
⟨some 9, .mv (.t 12), none, []⟩,
⟨some 13, .ext (.t 9) 0, none, []⟩,
⟨some 14, .ext (.t 9) 1, none, []⟩,
⟨some 5, .mv (.t 13), none, []⟩,
⟨some 6, .mv (.t 14), none, []⟩]
def f17.r3 : List IOper := [
⟨some 15, .mv (.t 6), none, []⟩,
⟨some 16, .faddr 1 1 (.t 4), none, []⟩,
⟨none, .store 1 (.t 16) (.t 15), none, []⟩]
def f17.r4 : List IOper := [
⟨some 17, .mv (.t 6), none, []⟩,
⟨some 18, .un .not (.t 17), none, []⟩]
def f17.r5 : List IOper := [
⟨some 20, .call 60 [], none, []⟩,
⟨some 21, .mv (.t 0), none, []⟩,
⟨some 22, .call 62 [(.t 20), (.t 21)], none, []⟩,
⟨some 19, .mv (.t 22), none, []⟩,
⟨some 23, .ext (.t 19) 0, none, []⟩,
⟨some 24, .ext (.t 19) 1, none, []⟩,
⟨some 5, .mv (.t 23), none, []⟩,
⟨some 6, .mv (.t 24), none, []⟩]
def f17.r6 : List IOper := [
⟨some 25, .mv (.t 0), none, []⟩]
def f17.r7 : List IOper := [
⟨some 27, .bin .eql (.t 25) (.c (.d (.str [99, 104, 117, 110, 107]))), none, []⟩,
⟨some 26, .mv (.t 27), none, []⟩]
def f17.r8 : List IOper := [
⟨some 28, .faddr 2 1 (.t 4), none, []⟩,
⟨none, .store 1 (.t 28) (.c (.d (.bool true))), none, []⟩,
⟨some 6, .mv (.c (.d (.bool true))), none, []⟩,
⟨some 5, .mv (.c (.d (.str [40, 91, 110, 93, 65, 41, 32, 45, 62, 32, 91, 110, 44, 32, 49, 93, 65]))), none, []⟩]
def f17.r9 : List IOper := [
⟨some 30, .bin .eql (.t 25) (.c (.d (.str [105, 110, 100, 101, 120]))), none, []⟩,
⟨some 29, .mv (.t 30), none, []⟩]
def f17.r10 : List IOper := [
⟨some 31, .bin .eql (.t 25) (.c (.d (.str [117, 112, 100, 97, 116, 101]))), none, []⟩,
⟨some 29, .mv (.t 31), none, []⟩]
def f17.r11 : List IOper := [
⟨some 32, .faddr 3 1 (.t 4), none, []⟩,
⟨none, .store 1 (.t 32) (.c (.d (.bool true))), none, []⟩]
def f17.r12 : List IOper := [
⟨some 34, .bin .eql (.t 25) (.c (.d (.str [105, 111, 116, 97]))), none, []⟩,
⟨some 33, .mv (.t 34), none, []⟩]
def f17.r13 : List IOper := [
⟨some 35, .bin .eql (.t 25) (.c (.d (.str [102, 105, 108, 108]))), none, []⟩,
⟨some 33, .mv (.t 35), none, []⟩]
def f17.r14 : List IOper := [
⟨some 36, .bin .eql (.t 25) (.c (.d (.str [116, 97, 107, 101]))), none, []⟩,
⟨some 33, .mv (.t 36), none, []⟩]
def f17.r15 : List IOper := [
⟨some 37, .bin .eql (.t 25) (.c (.d (.str [100, 114, 111, 112]))), none, []⟩,
⟨some 33, .mv (.t 37), none, []⟩]
def f17.r16 : List IOper := [
⟨some 38, .bin .eql (.t 25) (.c (.d (.str [119, 105, 110, 100, 111, 119, 115]))), none, []⟩,
⟨some 33, .mv (.t 38), none, []⟩]
def f17.r17 : List IOper := [
⟨some 39, .mkSlice 1 1 [.d (.str [])] [(0, 1, (.c (.d (.str [107]))))], none, []⟩,
⟨some 40, .faddr 4 1 (.t 4), none, []⟩,
⟨none, .store 1 (.t 40) (.t 39), none, []⟩]
def f17.r18 : List IOper := [
⟨some 41, .mv (.t 6), none, []⟩,
⟨some 42, .un .not (.t 41), none, []⟩]
def f17.r19 : List IOper := [
⟨some 43, .build [.d (.str []), .d (.bool false), .d (.bool false), .d (.bool false), .nils, .nils, .d (.str []), .d (.str []), .nils, .nils] [], none, []⟩,
⟨none, .store 10 (.t 2) (.t 43), none, []⟩,
⟨some 3, .mv (.c (.d (.bool false))), none, []⟩]
def f17.r20 : List IOper := [
⟨some 45, .mv (.t 5), none, []⟩,
⟨some 46, .call 63 [(.t 45)], none, []⟩,
⟨some 44, .mv (.t 46), none, []⟩,
⟨some 47, .ext (.t 44) 0, none, []⟩,
⟨some 48, .ext (.t 44) 1, none, []⟩,
⟨some 49, .faddr 5 5 (.t 4), none, []⟩,
⟨none, .store 5 (.t 49) (.t 47), none, []⟩]
def f17.r21 : List IOper := [
⟨some 50, .load 10 true (.t 4), none, []⟩,
⟨none, .store 10 (.t 2) (.t 50), none, []⟩,
⟨some 3, .mv (.c (.d (.bool true))), none, []⟩]
def f17 : IFn := ⟨1, 51, [.cell 2 10 true, .t 3], (.seq (.region f17.r0) (.seq (.region f17.r1) (.seq (.region f17.r2) (.seq (.region f17.r3) (.seq (.seq (.region f17.r4) (.cond (.t 18) (.region f17.r5) .skip)) (.seq (.seq (.region f17.r6) (.block 0 (.seq (.region f17.r7) (.cond (.t 26) (.region f17.r8) (.seq (.seq (.region f17.r9) (.cond (.t 29) .skip (.region f17.r10))) (.cond (.t 29) (.region f17.r11) (.seq (.seq (.region f17.r12) (.cond (.t 33) .skip (.seq (.region f17.r13) (.cond (.t 33) .skip (.seq (.region f17.r14) (.cond (.t 33) .skip (.seq (.region f17.r15) (.cond (.t 33) .skip (.region f17.r16))))))))) (.cond (.t 33) (.region f17.r17) .skip)))))))) (.seq (.seq (.region f17.r18) (.cond (.t 42) (.seq (.region f17.r19) .ret) .skip)) (.seq (.region f17.r20) (.seq (.region f17.r21) .ret)))))))))⟩
def f18.r0 : List IOper := [
⟨some 4, .alloc [.nils, .d (.str []), .d (.str []), .nils, .nils], none, []⟩,
⟨some 5, .mv (.c (.d (.int .i64 0))), none, []⟩]
def f18.r1 : List IOper := [
⟨some 10, .mv (.t 0), none, []⟩,
⟨some 11, .call 17 [(.t 10)], none, []⟩,
⟨some 9, .mv (.t 11), none, []⟩,
⟨some 12, .ext (.t 9) 0, none, []⟩,
⟨some 13, .ext (.t 9) 1, none, []⟩,
⟨some 6, .alloc [.d (.str []), .d (.bool false), .d (.bool false), .d (.bool false), .nils, .nils, .d (.str []), .d (.str []), .nils, .nils], none, []⟩,
⟨none, .store 10 (.t 6) (.t 12), none, []⟩,
⟨some 7, .mv (.t 13), none, []⟩]
def f18.r2 : List IOper := [
⟨some 15, .mv (.t 7), none, []⟩,
⟨some 16, .un .not (.t 15), none, []⟩,
⟨some 14, .mv (.t 16), none, []⟩]
def f18.r3 : List IOper := [
⟨some 17, .build [.nils, .d (.str []), .d (.str []), .nils, .nils] [], none, []⟩,
⟨none, .store 5 (.t 4) (.t 17), none, []⟩,
⟨some 5, .mv (.c (.d (.int .i64 7))), none, []⟩]
def f18.r4 : List IOper := [
⟨some 19, .faddr 2 1 (.t 6), none, []⟩,
⟨some 20, .load 1 false (.t 19), none, []⟩,
⟨some 21, .mv (.t 20), none, []⟩,
⟨some 22, .mv (.t 1), some (21, true), []⟩,
⟨some 23, .bin .lss (.t 22) (.c (.d (.int .i64 1))), some (21, true), []⟩,
⟨some 24, .mv (.t 23), some (21, true), []⟩,
⟨some 25, .mv (.t 1), some (24, false), []⟩,
⟨some 26, .bin .gtr (.t 25) (.c (.d (.int .i64 64))), some (24, false), []⟩,
⟨some 27, .pick (.t 24) (.c (.d (.bool true))) (.t 26), some (21, true), []⟩,
⟨some 28, .pick (.t 21) (.t 27) (.c (.d (.bool false))), none, []⟩,
⟨some 29, .mv (.t 28), none, []⟩,
⟨some 30, .faddr 2 1 (.t 6), some (29, false), []⟩,
⟨some 31, .load 1 false (.t 30), some (29, false), []⟩,
⟨some 32, .un .not (.t 31), some (29, false), []⟩,
⟨some 33, .mv (.t 32), some (29, false), []⟩,
⟨some 34, .mv (.t 1), some (33, true), []⟩,
⟨some 35, .bin .neq (.t 34) (.c (.d (.int .i64 0))), some (33, true), []⟩,
⟨some 36, .pick (.t 33) (.t 35) (.c (.d (.bool false))), some (29, false), []⟩,
⟨some 37, .pick (.t 29) (.c (.d (.bool true))) (.t 36), none, []⟩,
⟨some 18, .mv (.t 37), none, []⟩]
def f18.r5 : List IOper := [
⟨some 38, .build [.nils, .d (.str []), .d (.str []), .nils, .nils] [], none, []⟩,
⟨none, .store 5 (.t 4) (.t 38), none, []⟩,
⟨some 5, .mv (.c (.d (.int .i64 1))), none, []⟩]
def f18.r6 : List IOper := [
⟨some 40, .faddr 2 1 (.t 6), none, []⟩,
⟨some 41, .load 1 false (.t 40), none, []⟩,
⟨some 42, .mv (.t 41), none, []⟩,
⟨some 43, .mv (.t 1), some (42, true), []⟩,
⟨some 44, .bin .gtr (.t 43) (.c (.d (.int .i64 1))), some (42, true), []⟩,
⟨some 45, .pick (.t 42) (.t 44) (.c (.d (.bool false))), none, []⟩,
⟨some 39, .mv (.t 45), none, []⟩]
def f18.r7 : List IOper := [
⟨some 46, .mv (.t 1), none, []⟩,
⟨some 47, .call 64 [(.t 46)], none, []⟩,
⟨some 8, .mv (.t 47), none, []⟩]
def f18.r8 : List IOper := [
⟨some 48, .mv (.t 8), none, []⟩,
⟨some 49, .bin .add (.c (.d (.str [40, 91]))) (.t 48), none, []⟩,
⟨some 50, .bin .add (.t 49) (.c (.d (.str [110, 93, 65, 41, 32, 45, 62, 32, 91, 110, 44, 32]))), none, []⟩,
⟨some 51, .mv (.t 8), none, []⟩,
⟨some 52, .bin .add (.t 50) (.t 51), none, []⟩,
⟨some 53, .bin .add (.t 52) (.c (.d (.str [93, 65]))), none, []⟩,
⟨some 54, .call 63 [(.t 53)], none, []⟩,
⟨some 55, .ext (.t 54) 0, none, []⟩,
⟨some 56, .ext (.t 54) 1, none, []⟩,
⟨none, .store 5 (.t 4) (.t 55), none, []⟩,
⟨some 5, .mv (.t 56), none, []⟩]
def f18.r9 : List IOper := [
⟨some 57, .faddr 5 5 (.t 6), none, []⟩,
⟨some 58, .load 5 true (.t 57), none, []⟩,
⟨none, .store 5 (.t 4) (.t 58), none, []⟩,
⟨some 5, .mv (.c (.d (.int .i64 0))), none, []⟩]
def f18 : IFn := ⟨2, 59, [.cell 4 5 true, .t 5], (.seq (.region f18.r0) (.seq (.region f18.r1) (.seq (.block 0 (.seq (.region f18.r2) (.cond (.t 14) (.seq (.region f18.r3) .ret) (.seq (.region f18.r4) (.cond (.t 18) (.seq (.region f18.r5) .ret) (.seq (.region f18.r6) (.cond (.t 39) (.seq (.region f18.r7) (.seq (.region f18.r8) .ret)) .skip))))))) (.seq (.region f18.r9) .ret))))⟩
def f24.r0 : List IOper := [
⟨some 2, .box 2 (.t 0), none, []⟩,
⟨some 4, .mv (.c (.d (.int .i64 0))), none, []⟩,
⟨some 5, .mv (.c (.d (.int .i64 0))), none, []⟩]
def f24.r1 : List IOper := [
⟨some 10, .load 2 true (.t 2), none, []⟩,
⟨some 11, .call 54 [(.t 10)], none, []⟩,
⟨some 12, .un .not (.t 11), none, []⟩]
def f24.r2 : List IOper := [
⟨some 4, .mv (.c (.d (.int .i64 0))), none, []⟩,
⟨some 5, .mv (.c (.d (.int .i64 1))), none, []⟩]
def f24.r3 : List IOper := [
⟨some 13, .faddr 0 1 (.t 2), none, []⟩,
⟨some 14, .load 1 false (.t 13), none, []⟩,
⟨some 6, .mv (.t 14), none, []⟩]
def f24.r4 : List IOper := [
⟨some 7, .mv (.c (.d (.int .i64 0))), none, []⟩]
def f24.r5 : List IOper := [
⟨some 15, .mv (.t 7), none, []⟩,
⟨some 16, .faddr 1 1 (.t 2), none, []⟩,
⟨some 17, .load 1 false (.t 16), none, []⟩,
⟨some 18, .len .slice (.t 17), none, []⟩,
⟨some 19, .bin .lss (.t 15) (.t 18), none, []⟩]
def f24.r6 : List IOper := [
⟨some 8, .mv (.c (.d (.int .i64 0))), none, []⟩]
def f24.r7 : List IOper := [
⟨some 22, .mv (.t 8), none, []⟩,
⟨some 23, .mv (.t 1), none, []⟩,
⟨some 24, .len .slice (.t 23), none, [1]⟩,
⟨some 25, .bin .lss (.t 22) (.t 24), none, [0, 2]⟩,
⟨some 26, .mv (.t 25), none, [3]⟩,
⟨some 27, .mv (.t 1), some (26, true), [4]⟩,
⟨some 28, .mv (.t 8), some (26, true), [4]⟩,
⟨some 29, .iaddr 2 (.t 27) (.t 28), some (26, true), [5, 6, 4]⟩,
⟨some 30, .faddr 0 1 (.t 29), some (26, true), [7, 4]⟩,
⟨some 31, .load 1 false (.t 30), some (26, true), [8, 4]⟩,
⟨some 32, .faddr 1 1 (.t 2), some (26, true), [4]⟩,
⟨some 33, .load 1 false (.t 32), some (26, true), [10, 4]⟩,
⟨some 34, .mv (.t 7), some (26, true), [4]⟩,
⟨some 35, .iaddr 2 (.t 33) (.t 34), some (26, true), [11, 12, 4]⟩,
⟨some 36, .faddr 0 1 (.t 35), some (26, true), [13, 4]⟩,
⟨some 37, .load 1 false (.t 36), some (26, true), [14, 4]⟩,
⟨some 38, .bin .neq (.t 31) (.t 37), some (26, true), [9, 15, 4]⟩,
⟨some 39, .pick (.t 26) (.t 38) (.c (.d (.bool false))), none, [4, 16]⟩]
def f24.r8 : List IOper := [
⟨some 40, .mv (.t 8), none, []⟩,
⟨some 41, .bin .add (.t 40) (.c (.d (.int .i64 1))), none, []⟩,
⟨some 8, .mv (.t 41), none, []⟩]
def f24.l9 : IR := (.seq (.seq (.draw f24.r7) (.cond (.t 39) .skip (.exit 2))) (.block 3 (.region f24.r8)))
def f24.r10 : List IOper := [
⟨some 42, .mv (.t 8), none, []⟩,
⟨some 43, .mv (.t 1), none, []⟩,
⟨some 44, .len .slice (.t 43), none, []⟩,
⟨some 45, .bin .eql (.t 42) (.t 44), none, []⟩]
def f24.r11 : List IOper := [
⟨some 4, .mv (.c (.d (.int .i64 0))), none, []⟩,
⟨some 5, .mv (.c (.d (.int .i64 7))), none, []⟩]
def f24.r12 : List IOper := [
⟨some 46, .mv (.t 1), none, []⟩,
⟨some 47, .mv (.t 8), none, []⟩,
⟨some 48, .iaddr 2 (.t 46) (.t 47), none, []⟩,
⟨some 49, .faddr 1 1 (.t 48), none, []⟩,
⟨some 50, .load 1 false (.t 49), none, []⟩,
⟨some 9, .mv (.t 50), none, []⟩]
def f24.r13 : List IOper := [
⟨some 51, .mv (.t 9), none, []⟩,
⟨some 52, .bin .lss (.t 51) (.c (.d (.int .i64 (-1000000000)))), none, []⟩,
⟨some 53, .mv (.t 52), none, []⟩,
⟨some 54, .mv (.t 9), some (53, false), []⟩,
⟨some 55, .bin .gtr (.t 54) (.c (.d (.int .i64 1000000000))), some (53, false), []⟩,
⟨some 56, .pick (.t 53) (.c (.d (.bool true))) (.t 55), none, []⟩]
def f24.r14 : List IOper := [
⟨some 4, .mv (.c (.d (.int .i64 0))), none, []⟩,
⟨some 5, .mv (.c (.d (.int .i64 2))), none, []⟩]
def f24.r15 : List IOper := [
⟨some 57, .mv (.t 6), none, []⟩,
⟨some 58, .faddr 1 1 (.t 2), none, []⟩,
⟨some 59, .load 1 false (.t 58), none, []⟩,
⟨some 60, .mv (.t 7), none, []⟩,
⟨some 61, .iaddr 2 (.t 59) (.t 60), none, []⟩,
⟨some 62, .faddr 1 1 (.t 61), none, []⟩,
⟨some 63, .load 1 false (.t 62), none, []⟩,
⟨some 64, .mv (.t 9), none, []⟩,
⟨some 65, .bin .mul (.t 63) (.t 64), none, []⟩,
⟨some 66, .bin .add (.t 57) (.t 65), none, []⟩,
⟨some 6, .mv (.t 66), none, []⟩]
def f24.r16 : List IOper := [
⟨some 20, .mv (.t 7), none, []⟩,
⟨some 21, .bin .add (.t 20) (.c (.d (.int .i64 1))), none, []⟩,
⟨some 7, .mv (.t 21), none, []⟩]
def f24.l17 : IR := (.seq (.seq (.region f24.r5) (.cond (.t 19) .skip (.exit 0))) (.seq (.block 1 (.seq (.region f24.r6) (.seq (.block 2 (.loop f24.l9)) (.seq (.seq (.region f24.r10) (.cond (.t 45) (.seq (.region f24.r11) .ret) .skip)) (.seq (.region f24.r12) (.seq (.seq (.region f24.r13) (.cond (.t 56) (.seq (.region f24.r14) .ret) .skip)) (.region f24.r15))))))) (.region f24.r16)))
def f24.r18 : List IOper := [
⟨some 67, .mv (.t 6), none, []⟩,
⟨some 4, .mv (.t 67), none, []⟩,
⟨some 5, .mv (.c (.d (.int .i64 0))), none, []⟩]
def f24 : IFn := ⟨2, 68, [.t 4, .t 5], (.seq (.region f24.r0) (.seq (.seq (.region f24.r1) (.cond (.t 12) (.seq (.region f24.r2) .ret) .skip)) (.seq (.region f24.r3) (.seq (.seq (.region f24.r4) (.block 0 (.loop f24.l17))) (.seq (.region f24.r18) .ret)))))⟩
def f32.r0 : List IOper := [
⟨some 4, .mv (.c (.d (.str []))), none, []⟩,
⟨some 5, .mv (.c (.d (.int .i64 0))), none, []⟩,
⟨some 6, .mv (.c (.d (.bool false))), none, []⟩]
def f32.r1 : List IOper := [
⟨some 9, .call 73 [], none, []⟩,
⟨some 10, .mv (.c (.d (.int .i64 0))), none, []⟩]
def f32.r2 : List IOper := [
⟨some 11, .bin .lss (.t 10) (.c (.d (.int .i64 15))), none, []⟩]
def f32.r3 : List IOper := [
⟨some 12, .idxA 15 4 true (.t 9) (.t 10), none, []⟩,
⟨some 8, .alloc [.d (.str []), .d (.bool false), .d (.str []), .d (.int .i64 0)], none, []⟩,
⟨none, .store 4 (.t 8) (.t 12), none, []⟩]
def f32.r4 : List IOper := [
⟨some 13, .faddr 0 1 (.t 8), none, []⟩,
⟨some 14, .load 1 false (.t 13), none, []⟩,
⟨some 15, .mv (.t 0), none, []⟩,
⟨some 16, .bin .eql (.t 14) (.t 15), none, []⟩,
⟨some 17, .mv (.t 16), none, []⟩,
⟨some 18, .faddr 1 1 (.t 8), some (17, true), []⟩,
⟨some 19, .load 1 false (.t 18), some (17, true), []⟩,
⟨some 20, .mv (.t 1), some (17, true), []⟩,
⟨some 21, .eq false .bool (.t 19) (.t 20), some (17, true), []⟩,
⟨some 22, .pick (.t 17) (.t 21) (.c (.d (.bool false))), none, []⟩]
def f32.r5 : List IOper := [
⟨some 23, .faddr 2 1 (.t 8), none, []⟩,
⟨some 24, .load 1 false (.t 23), none, [0]⟩,
⟨some 25, .faddr 3 1 (.t 8), none, []⟩,
⟨some 26, .load 1 false (.t 25), none, [2]⟩,
⟨some 4, .mv (.t 24), none, [1, 0, 1]⟩,
⟨some 5, .mv (.t 26), none, [3, 4, 0, 1, 2, 3, 4]⟩,
⟨some 6, .mv (.c (.d (.bool true))), none, [5, 0, 1, 2, 3, 4, 5]⟩]
def f32.r6 : List IOper := [
⟨some 27, .bin .add (.t 10) (.c (.d (.int .i64 1))), none, []⟩,
⟨some 10, .mv (.t 27), none, []⟩]
def f32.l7 : IR := (.seq (.region f32.r2) (.seq (.cond (.t 11) .skip (.exit 0)) (.seq (.block 1 (.seq (.region f32.r3) (.seq (.region f32.r4) (.cond (.t 22) (.seq (.draw f32.r5) .ret) .skip)))) (.region f32.r6))))
def f32.r8 : List IOper := [
⟨some 4, .mv (.c (.d (.str []))), none, []⟩,
⟨some 5, .mv (.c (.d (.int .i64 0))), none, []⟩,
⟨some 6, .mv (.c (.d (.bool false))), none, []⟩]
def f32 : IFn := ⟨2, 28, [.t 4, .t 5, .t 6], (.seq (.region f32.r0) (.seq (.seq (.region f32.r1) (.block 0 (.loop f32.l7))) (.seq (.region f32.r8) .ret)))⟩
def f46.r0 : List IOper := [
⟨some 2, .box 2 (.t 0), none, []⟩,
⟨some 3, .box 2 (.t 1), none, []⟩,
⟨some 4, .mv (.c (.d (.bool false))), none, []⟩]
def f46.r1 : List IOper := [
⟨some 5, .load 2 true (.t 2), none, []⟩,
⟨some 6, .load 2 true (.t 3), none, []⟩,
⟨some 7, .call 76 [(.t 5), (.t 6)], none, []⟩,
⟨some 8, .bin .eql (.t 7) (.c (.d (.int .i64 0))), none, []⟩,
⟨some 4, .mv (.t 8), none, []⟩]
def f46 : IFn := ⟨2, 9, [.t 4], (.seq (.region f46.r0) (.seq (.region f46.r1) .ret))⟩
def f47.r0 : List IOper := [
⟨some 2, .mv (.c (.nils)), none, []⟩]
def f47.r1 : List IOper := [
⟨some 3, .mv (.t 0), none, []⟩,
⟨some 4, .eq false .slice (.t 3) (.c (.nils)), none, []⟩]
def f47.r2 : List IOper := [
⟨some 2, .mv (.c (.nils)), none, []⟩]
def f47.r3 : List IOper := [
⟨some 5, .mkSlice 7 0 [] [], none, []⟩,
⟨some 6, .mv (.t 0), none, []⟩,
⟨some 7, .append 7 112 (.t 5) (.t 6), none, []⟩,
⟨some 2, .mv (.t 7), none, []⟩]
def f47 : IFn := ⟨1, 8, [.t 2], (.seq (.region f47.r0) (.seq (.seq (.region f47.r1) (.cond (.t 4) (.seq (.region f47.r2) .ret) .skip)) (.seq (.region f47.r3) .ret)))⟩
def f48.r0 : List IOper := [
⟨some 1, .box 2 (.t 0), none, []⟩,
⟨some 2, .mv (.c (.d (.bool false))), none, []⟩]
def f48.r1 : List IOper := [
⟨some 5, .faddr 1 1 (.t 1), none, []⟩,
⟨some 6, .load 1 false (.t 5), none, []⟩,
⟨some 7, .len .slice (.t 6), none, []⟩,
⟨some 8, .mv (.c (.d (.int .i64 0))), none, []⟩]
def f48.r2 : List IOper := [
⟨some 9, .bin .lss (.t 8) (.t 7), none, []⟩]
def f48.r3 : List IOper := [
⟨some 10, .mv (.t 8), none, []⟩,
⟨some 11, .iaddr 2 (.t 6) (.t 8), none, []⟩,
⟨some 12, .load 2 true (.t 11), none, []⟩,
⟨some 4, .alloc [.d (.str []), .d (.int .i64 0)], none, []⟩,
⟨some 3, .mv (.t 10), none, []⟩,
⟨none, .store 2 (.t 4) (.t 12), none, []⟩]
def f48.r4 : List IOper := [
⟨some 13, .faddr 0 1 (.t 4), none, []⟩,
⟨some 14, .load 1 false (.t 13), none, [0]⟩,
⟨some 15, .call 77 [(.t 14)], none, [1]⟩,
⟨some 16, .un .not (.t 15), none, [2]⟩,
⟨some 17, .mv (.t 16), none, [3, 2]⟩,
⟨some 18, .faddr 1 1 (.t 4), some (17, false), [4]⟩,
⟨some 19, .load 1 false (.t 18), some (17, false), [5, 4]⟩,
⟨some 20, .bin .eql (.t 19) (.c (.d (.int .i64 0))), some (17, false), [6, 4]⟩,
⟨some 21, .pick (.t 17) (.c (.d (.bool true))) (.t 20), none, [4, 7]⟩,
⟨some 22, .mv (.t 21), none, [8, 4]⟩,
⟨some 23, .faddr 1 1 (.t 4), some (22, false), [9]⟩,
⟨some 24, .load 1 false (.t 23), some (22, false), [10, 9]⟩,
⟨some 25, .call 78 [(.t 24)], some (22, false), [11, 9, 9]⟩,
⟨some 26, .un .not (.t 25), some (22, false), [12, 9]⟩,
⟨some 27, .pick (.t 22) (.c (.d (.bool true))) (.t 26), none, [9, 13]⟩,
⟨some 28, .mv (.t 27), none, [14, 12]⟩,
⟨some 29, .mv (.t 3), some (28, false), [15]⟩,
⟨some 30, .bin .gtr (.t 29) (.c (.d (.int .i64 0))), some (28, false), [16, 15]⟩,
⟨some 31, .mv (.t 30), some (28, false), [17, 15, 15]⟩,
⟨some 32, .faddr 1 1 (.t 1), some (31, true), [18]⟩,
⟨some 33, .load 1 false (.t 32), some (31, true), [19, 18]⟩,
⟨some 34, .mv (.t 3), some (31, true), [18]⟩,
⟨some 35, .bin .sub (.t 34) (.c (.d (.int .i64 1))), some (31, true), [21, 18]⟩,
⟨some 36, .iaddr 2 (.t 33) (.t 35), some (31, true), [20, 22, 18]⟩,
⟨some 37, .faddr 0 1 (.t 36), some (31, true), [23, 18]⟩,
⟨some 38, .load 1 false (.t 37), some (31, true), [24, 18]⟩,
⟨some 39, .faddr 0 1 (.t 4), some (31, true), [18]⟩,
⟨some 40, .load 1 false (.t 39), some (31, true), [26, 18]⟩,
⟨some 41, .bin .geq (.t 38) (.t 40), some (31, true), [25, 27, 18]⟩,
⟨some 42, .pick (.t 31) (.t 41) (.c (.d (.bool false))), some (28, false), [18, 28, 15]⟩,
⟨some 43, .pick (.t 28) (.c (.d (.bool true))) (.t 42), none, [15, 29]⟩]
def f48.r5 : List IOper := [
⟨some 2, .mv (.c (.d (.bool false))), none, []⟩]
def f48.r6 : List IOper := [
⟨some 44, .bin .add (.t 8) (.c (.d (.int .i64 1))), none, []⟩,
⟨some 8, .mv (.t 44), none, []⟩]
def f48.l7 : IR := (.seq (.region f48.r2) (.seq (.cond (.t 9) .skip (.exit 0)) (.seq (.block 1 (.seq (.region f48.r3) (.seq (.draw f48.r4) (.cond (.t 43) (.seq (.region f48.r5) .ret) .skip)))) (.region f48.r6))))
def f48.r8 : List IOper := [
⟨some 45, .faddr 0 1 (.t 1), none, []⟩,
⟨some 46, .load 1 false (.t 45), none, []⟩,
⟨some 47, .call 78 [(.t 46)], none, []⟩,
⟨some 48, .mv (.t 47), none, []⟩,
⟨some 49, .faddr 1 1 (.t 1), some (48, true), []⟩,
⟨some 50, .load 1 false (.t 49), some (48, true), []⟩,
⟨some 51, .len .slice (.t 50), some (48, true), []⟩,
⟨some 52, .bin .leq (.t 51) (.c (.d (.int .i64 12))), some (48, true), []⟩,
⟨some 53, .pick (.t 48) (.t 52) (.c (.d (.bool false))), none, []⟩,
⟨some 2, .mv (.t 53), none, []⟩]
def f48 : IFn := ⟨1, 54, [.t 2], (.seq (.region f48.r0) (.seq (.seq (.region f48.r1) (.block 0 (.loop f48.l7))) (.seq (.region f48.r8) .ret)))⟩
def f49.r0 : List IOper := [
⟨some 1, .box 5 (.t 0), none, []⟩,
⟨some 2, .mv (.c (.nils)), none, []⟩]
def f49.r1 : List IOper := [
⟨some 10, .load 5 true (.t 1), none, []⟩,
⟨some 11, .call 79 [(.t 10)], none, []⟩,
⟨some 12, .un .not (.t 11), none, []⟩]
def f49.r2 : List IOper := [
⟨some 2, .mv (.c (.nils)), none, []⟩]
def f49.r3 : List IOper := [
⟨some 3, .mv (.c (.nils)), none, []⟩]
def f49.r4 : List IOper := [
⟨some 13, .faddr 0 1 (.t 1), none, []⟩,
⟨some 14, .load 1 false (.t 13), none, []⟩,
⟨some 15, .faddr 1 3 (.t 1), none, []⟩,
⟨some 16, .load 3 true (.t 15), none, []⟩,
⟨some 17, .mkSlice 3 1 [.d (.str []), .d (.str []), .nils] [(0, 3, (.t 16))], none, []⟩,
⟨some 18, .mkSlice 1 2 [.nils, .nils] [(0, 1, (.t 14)), (1, 1, (.t 17))], none, []⟩,
⟨some 19, .call 80 [(.t 18)], none, []⟩,
⟨some 20, .len .slice (.t 19), none, []⟩,
⟨some 21, .mv (.c (.d (.int .i64 0))), none, []⟩]
def f49.r5 : List IOper := [
⟨some 22, .bin .lss (.t 21) (.t 20), none, []⟩]
def f49.r6 : List IOper := [
⟨some 23, .iaddr 3 (.t 19) (.t 21), none, []⟩,
⟨some 24, .load 3 true (.t 23), none, []⟩,
⟨some 5, .alloc [.d (.str []), .d (.str []), .nils], none, []⟩,
⟨none, .store 3 (.t 5) (.t 24), none, []⟩]
def f49.r7 : List IOper := [
⟨some 25, .mv (.t 3), none, []⟩,
⟨some 26, .load 3 true (.t 5), none, []⟩,
⟨some 27, .call 82 [(.t 26)], none, []⟩,
⟨some 28, .call 81 [(.t 25), (.t 27)], none, []⟩,
⟨some 3, .mv (.t 28), none, []⟩]
def f49.r8 : List IOper := [
⟨some 29, .bin .add (.t 21) (.c (.d (.int .i64 1))), none, []⟩,
⟨some 21, .mv (.t 29), none, []⟩]
def f49.l9 : IR := (.seq (.region f49.r5) (.seq (.cond (.t 22) .skip (.exit 0)) (.seq (.block 1 (.seq (.region f49.r6) (.region f49.r7))) (.region f49.r8))))
def f49.r10 : List IOper := [
⟨some 30, .faddr 4 1 (.t 1), none, []⟩,
⟨some 31, .load 1 false (.t 30), none, []⟩,
⟨some 32, .len .slice (.t 31), none, []⟩,
⟨some 33, .mv (.c (.d (.int .i64 0))), none, []⟩]
def f49.r11 : List IOper := [
⟨some 34, .bin .lss (.t 33) (.t 32), none, []⟩]
def f49.r12 : List IOper := [
⟨some 35, .iaddr 2 (.t 31) (.t 33), none, []⟩,
⟨some 36, .load 2 true (.t 35), none, []⟩,
⟨some 7, .alloc [.d (.int .i64 0), .nils], none, []⟩,
⟨none, .store 2 (.t 7) (.t 36), none, []⟩]
def f49.r13 : List IOper := [
⟨some 37, .load 2 true (.t 7), none, []⟩,
⟨some 38, .call 83 [(.t 37)], none, []⟩,
⟨some 39, .len .slice (.t 38), none, []⟩,
⟨some 40, .mv (.c (.d (.int .i64 0))), none, []⟩]
def f49.r14 : List IOper := [
⟨some 41, .bin .lss (.t 40) (.t 39), none, []⟩]
def f49.r15 : List IOper := [
⟨some 42, .iaddr 1 (.t 38) (.t 40), none, []⟩,
⟨some 43, .load 1 false (.t 42), none, []⟩,
⟨some 9, .mv (.t 43), none, []⟩]
def f49.r16 : List IOper := [
⟨some 44, .mv (.t 3), none, []⟩,
⟨some 45, .mv (.t 9), none, []⟩,
⟨some 46, .build [.d (.int .i64 0), .d (.str []), .d (.int .i64 0), .nils, .d (.str []), .nils, .d (.str [])] [(0, 1, (.c (.d (.int .i64 1)))), (1, 1, (.t 45))], none, []⟩,
⟨some 47, .mkSlice 7 1 [.d (.int .i64 0), .d (.str []), .d (.int .i64 0), .nils, .d (.str []), .nils, .d (.str [])] [(0, 7, (.t 46))], none, []⟩,
⟨some 48, .call 81 [(.t 44), (.t 47)], none, []⟩,
⟨some 3, .mv (.t 48), none, []⟩]
def f49.r17 : List IOper := [
⟨some 49, .bin .add (.t 40) (.c (.d (.int .i64 1))), none, []⟩,
⟨some 40, .mv (.t 49), none, []⟩]
def f49.l18 : IR := (.seq (.region f49.r14) (.seq (.cond (.t 41) .skip (.exit 4)) (.seq (.block 5 (.seq (.region f49.r15) (.region f49.r16))) (.region f49.r17))))
def f49.r19 : List IOper := [
⟨some 50, .bin .add (.t 33) (.c (.d (.int .i64 1))), none, []⟩,
⟨some 33, .mv (.t 50), none, []⟩]
def f49.l20 : IR := (.seq (.region f49.r11) (.seq (.cond (.t 34) .skip (.exit 2)) (.seq (.block 3 (.seq (.region f49.r12) (.seq (.region f49.r13) (.block 4 (.loop f49.l18))))) (.region f49.r19))))
def f49.r21 : List IOper := [
⟨some 51, .mv (.t 3), none, []⟩,
⟨some 2, .mv (.t 51), none, []⟩]
def f49 : IFn := ⟨1, 52, [.t 2], (.seq (.region f49.r0) (.seq (.seq (.region f49.r1) (.cond (.t 12) (.seq (.region f49.r2) .ret) .skip)) (.seq (.region f49.r3) (.seq (.seq (.region f49.r4) (.block 0 (.loop f49.l9))) (.seq (.seq (.region f49.r10) (.block 2 (.loop f49.l20))) (.seq (.region f49.r21) .ret))))))⟩
def f50.r0 : List IOper := [
⟨some 2, .box 7 (.t 0), none, []⟩,
⟨some 3, .box 7 (.t 1), none, []⟩,
⟨some 4, .mv (.c (.d (.bool false))), none, []⟩]
def f50.r1 : List IOper := [
⟨some 5, .faddr 0 1 (.t 2), none, []⟩,
⟨some 6, .load 1 false (.t 5), none, []⟩,
⟨some 7, .faddr 0 1 (.t 3), none, []⟩,
⟨some 8, .load 1 false (.t 7), none, []⟩,
⟨some 9, .bin .eql (.t 6) (.t 8), none, []⟩,
⟨some 10, .mv (.t 9), none, []⟩,
⟨some 11, .faddr 1 1 (.t 2), some (10, true), []⟩,
⟨some 12, .load 1 false (.t 11), some (10, true), []⟩,
⟨some 13, .faddr 1 1 (.t 3), some (10, true), []⟩,
⟨some 14, .load 1 false (.t 13), some (10, true), []⟩,
⟨some 15, .bin .eql (.t 12) (.t 14), some (10, true), []⟩,
⟨some 16, .pick (.t 10) (.t 15) (.c (.d (.bool false))), none, []⟩,
⟨some 4, .mv (.t 16), none, []⟩]
def f50 : IFn := ⟨2, 17, [.t 4], (.seq (.region f50.r0) (.seq (.region f50.r1) .ret))⟩
def f51.r0 : List IOper := [
⟨some 4, .mv (.c (.d (.bool false))), none, []⟩]
def f51.r1 : List IOper := [
⟨some 5, .mv (.t 0), none, []⟩,
⟨some 6, .mv (.t 1), none, []⟩,
⟨some 7, .call 84 [(.t 5), (.t 6)], none, []⟩,
⟨some 8, .bin .geq (.t 7) (.c (.d (.int .i64 0))), none, []⟩,
⟨some 4, .mv (.t 8), none, []⟩]
def f51 : IFn := ⟨2, 9, [.t 4], (.seq (.region f51.r0) (.seq (.region f51.r1) .ret))⟩
def f52.r0 : List IOper := [
⟨some 3, .box 7 (.t 0), none, []⟩,
⟨some 4, .mv (.c (.d (.bool false))), none, []⟩]
def f52.r1 : List IOper := [
⟨some 5, .load 1 false (.t 1), none, []⟩,
⟨some 6, .load 7 true (.t 3), none, []⟩,
⟨some 7, .load 7 true (.t 2), none, []⟩,
⟨some 8, .callv (.t 5) [(.t 6), (.t 7)], none, []⟩,
⟨some 4, .mv (.t 8), none, []⟩]
def f52 : IFn := ⟨3, 9, [.t 4], (.seq (.region f52.r0) (.seq (.region f52.r1) .ret))⟩
def f53.r0 : List IOper := [
⟨some 2, .box 5 (.t 0), none, []⟩,
⟨some 4, .alloc [.nils, .d (.str []), .d (.str []), .nils, .nils], none, []⟩,
⟨some 5, .mv (.c (.d (.int .i64 0))), none, []⟩]
def f53.r1 : List IOper := [
⟨some 12, .load 5 true (.t 2), none, []⟩,
⟨some 13, .call 79 [(.t 12)], none, []⟩,
⟨some 14, .un .not (.t 13), none, []⟩,
⟨some 15, .mv (.t 14), none, []⟩,
⟨some 16, .mv (.t 1), some (15, false), []⟩,
⟨some 17, .call 85 [(.t 16)], some (15, false), []⟩,
⟨some 18, .un .not (.t 17), some (15, false), []⟩,
⟨some 19, .pick (.t 15) (.c (.d (.bool true))) (.t 18), none, []⟩]
def f53.r2 : List IOper := [
⟨some 20, .build [.nils, .d (.str []), .d (.str []), .nils, .nils] [], none, []⟩,
⟨none, .store 5 (.t 4) (.t 20), none, []⟩,
⟨some 5, .mv (.c (.d (.int .i64 1))), none, []⟩]
def f53.r3 : List IOper := [
⟨some 6, .alloc [.nils, .d (.str []), .d (.str []), .nils, .nils], none, []⟩]
def f53.r4 : List IOper := [
⟨some 7, .mv (.c (.d (.int .i64 0))), none, []⟩]
def f53.r5 : List IOper := [
⟨some 21, .faddr 0 1 (.t 2), none, []⟩,
⟨some 22, .load 1 false (.t 21), none, []⟩,
⟨some 23, .len .slice (.t 22), none, []⟩,
⟨some 24, .mv (.c (.d (.int .i64 0))), none, []⟩]
def f53.r6 : List IOper := [
⟨some 25, .bin .lss (.t 24) (.t 23), none, []⟩]
def f53.r7 : List IOper := [
⟨some 26, .iaddr 3 (.t 22) (.t 24), none, []⟩,
⟨some 27, .load 3 true (.t 26), none, []⟩,
⟨some 9, .alloc [.d (.str []), .d (.str []), .nils], none, []⟩,
⟨none, .store 3 (.t 9) (.t 27), none, []⟩]
def f53.r8 : List IOper := [
⟨some 29, .load 3 true (.t 9), none, []⟩,
⟨some 30, .mv (.t 1), none, []⟩,
⟨some 31, .call 86 [(.t 29), (.t 30)], none, []⟩,
⟨some 28, .mv (.t 31), none, []⟩,
⟨some 32, .ext (.t 28) 0, none, []⟩,
⟨some 33, .ext (.t 28) 1, none, []⟩,
⟨none, .store 3 (.t 9) (.t 32), none, []⟩,
⟨some 7, .mv (.t 33), none, []⟩]
def f53.r9 : List IOper := [
⟨some 34, .mv (.t 7), none, []⟩,
⟨some 35, .bin .neq (.t 34) (.c (.d (.int .i64 0))), none, []⟩]
def f53.r10 : List IOper := [
⟨some 36, .build [.nils, .d (.str []), .d (.str []), .nils, .nils] [], none, []⟩,
⟨some 37, .mv (.t 7), none, []⟩,
⟨none, .store 5 (.t 4) (.t 36), none, []⟩,
⟨some 5, .mv (.t 37), none, []⟩]
def f53.r11 : List IOper := [
⟨some 38, .faddr 0 1 (.t 6), none, []⟩,
⟨some 39, .load 1 false (.t 38), none, []⟩,
⟨some 40, .load 3 true (.t 9), none, []⟩,
⟨some 41, .mkSlice 3 1 [.d (.str []), .d (.str []), .nils] [(0, 3, (.t 40))], none, []⟩,
⟨some 42, .append 3 56 (.t 39) (.t 41), none, []⟩,
⟨some 43, .faddr 0 1 (.t 6), none, []⟩,
⟨none, .store 1 (.t 43) (.t 42), none, []⟩]
def f53.r12 : List IOper := [
⟨some 44, .bin .add (.t 24) (.c (.d (.int .i64 1))), none, []⟩,
⟨some 24, .mv (.t 44), none, []⟩]
def f53.l13 : IR := (.seq (.region f53.r6) (.seq (.cond (.t 25) .skip (.exit 0)) (.seq (.block 1 (.seq (.region f53.r7) (.seq (.seq (.region f53.r8) (.seq (.region f53.r9) (.cond (.t 35) (.seq (.region f53.r10) .ret) .skip))) (.region f53.r11)))) (.region f53.r12))))
def f53.r14 : List IOper := [
⟨some 46, .faddr 1 3 (.t 2), none, []⟩,
⟨some 47, .load 3 true (.t 46), none, []⟩,
⟨some 48, .mv (.t 1), none, []⟩,
⟨some 49, .call 86 [(.t 47), (.t 48)], none, []⟩,
⟨some 45, .mv (.t 49), none, []⟩,
⟨some 50, .ext (.t 45) 0, none, []⟩,
⟨some 51, .ext (.t 45) 1, none, []⟩,
⟨some 52, .faddr 1 3 (.t 6), none, []⟩,
⟨none, .store 3 (.t 52) (.t 50), none, []⟩,
⟨some 7, .mv (.t 51), none, []⟩]
def f53.r15 : List IOper := [
⟨some 53, .mv (.t 7), none, []⟩,
⟨some 54, .bin .neq (.t 53) (.c (.d (.int .i64 0))), none, []⟩]
def f53.r16 : List IOper := [
⟨some 55, .build [.nils, .d (.str []), .d (.str []), .nils, .nils] [], none, []⟩,
⟨some 56, .mv (.t 7), none, []⟩,
⟨none, .store 5 (.t 4) (.t 55), none, []⟩,
⟨some 5, .mv (.t 56), none, []⟩]
def f53.r17 : List IOper := [
⟨some 57, .faddr 4 1 (.t 2), none, []⟩,
⟨some 58, .load 1 false (.t 57), none, []⟩,
⟨some 59, .len .slice (.t 58), none, []⟩,
⟨some 60, .mv (.c (.d (.int .i64 0))), none, []⟩]
def f53.r18 : List IOper := [
⟨some 61, .bin .lss (.t 60) (.t 59), none, []⟩]
def f53.r19 : List IOper := [
⟨some 62, .iaddr 2 (.t 58) (.t 60), none, []⟩,
⟨some 63, .load 2 true (.t 62), none, []⟩,
⟨some 11, .alloc [.d (.int .i64 0), .nils], none, []⟩,
⟨none, .store 2 (.t 11) (.t 63), none, []⟩]
def f53.r20 : List IOper := [
⟨some 65, .load 2 true (.t 11), none, []⟩,
⟨some 66, .mv (.t 1), none, []⟩,
⟨some 67, .call 87 [(.t 65), (.t 66)], none, []⟩,
⟨some 64, .mv (.t 67), none, []⟩,
⟨some 68, .ext (.t 64) 0, none, []⟩,
⟨some 69, .ext (.t 64) 1, none, []⟩,
⟨none, .store 2 (.t 11) (.t 68), none, []⟩,
⟨some 7, .mv (.t 69), none, []⟩]
def f53.r21 : List IOper := [
⟨some 70, .mv (.t 7), none, []⟩,
⟨some 71, .bin .neq (.t 70) (.c (.d (.int .i64 0))), none, []⟩]
def f53.r22 : List IOper := [
⟨some 72, .build [.nils, .d (.str []), .d (.str []), .nils, .nils] [], none, []⟩,
⟨some 73, .mv (.t 7), none, []⟩,
⟨none, .store 5 (.t 4) (.t 72), none, []⟩,
⟨some 5, .mv (.t 73), none, []⟩]
def f53.r23 : List IOper := [
⟨some 74, .faddr 4 1 (.t 6), none, []⟩,
⟨some 75, .load 1 false (.t 74), none, []⟩,
⟨some 76, .load 2 true (.t 11), none, []⟩,
⟨some 77, .mkSlice 2 1 [.d (.int .i64 0), .nils] [(0, 2, (.t 76))], none, []⟩,
⟨some 78, .append 2 32 (.t 75) (.t 77), none, []⟩,
⟨some 79, .faddr 4 1 (.t 6), none, []⟩,
⟨none, .store 1 (.t 79) (.t 78), none, []⟩]
def f53.r24 : List IOper := [
⟨some 80, .bin .add (.t 60) (.c (.d (.int .i64 1))), none, []⟩,
⟨some 60, .mv (.t 80), none, []⟩]
def f53.l25 : IR := (.seq (.region f53.r18) (.seq (.cond (.t 61) .skip (.exit 2)) (.seq (.block 3 (.seq (.region f53.r19) (.seq (.seq (.region f53.r20) (.seq (.region f53.r21) (.cond (.t 71) (.seq (.region f53.r22) .ret) .skip))) (.region f53.r23)))) (.region f53.r24))))
def f53.r26 : List IOper := [
⟨some 81, .load 5 true (.t 6), none, []⟩,
⟨none, .store 5 (.t 4) (.t 81), none, []⟩,
⟨some 5, .mv (.c (.d (.int .i64 0))), none, []⟩]
def f53 : IFn := ⟨2, 82, [.cell 4 5 true, .t 5], (.seq (.region f53.r0) (.seq (.seq (.region f53.r1) (.cond (.t 19) (.seq (.region f53.r2) .ret) .skip)) (.seq (.region f53.r3) (.seq (.region f53.r4) (.seq (.seq (.region f53.r5) (.block 0 (.loop f53.l13))) (.seq (.seq (.region f53.r14) (.seq (.region f53.r15) (.cond (.t 54) (.seq (.region f53.r16) .ret) .skip))) (.seq (.seq (.region f53.r17) (.block 2 (.loop f53.l25))) (.seq (.region f53.r26) .ret))))))))⟩
def f54.r0 : List IOper := [
⟨some 1, .box 2 (.t 0), none, []⟩,
⟨some 2, .mv (.c (.d (.bool false))), none, []⟩]
def f54.r1 : List IOper := [
⟨some 5, .faddr 0 1 (.t 1), none, []⟩,
⟨some 6, .load 1 false (.t 5), none, []⟩,
⟨some 7, .call 88 [(.t 6)], none, []⟩,
⟨some 8, .un .not (.t 7), none, []⟩,
⟨some 9, .mv (.t 8), none, []⟩,
⟨some 10, .faddr 1 1 (.t 1), some (9, false), []⟩,
⟨some 11, .load 1 false (.t 10), some (9, false), []⟩,
⟨some 12, .len .slice (.t 11), some (9, false), []⟩,
⟨some 13, .bin .gtr (.t 12) (.c (.d (.int .i64 12))), some (9, false), []⟩,
⟨some 14, .pick (.t 9) (.c (.d (.bool true))) (.t 13), none, []⟩]
def f54.r2 : List IOper := [
⟨some 2, .mv (.c (.d (.bool false))), none, []⟩]
def f54.r3 : List IOper := [
⟨some 3, .mv (.c (.d (.int .i64 0))), none, []⟩]
def f54.r4 : List IOper := [
⟨some 15, .mv (.t 3), none, []⟩,
⟨some 16, .faddr 1 1 (.t 1), none, []⟩,
⟨some 17, .load 1 false (.t 16), none, []⟩,
⟨some 18, .len .slice (.t 17), none, []⟩,
⟨some 19, .bin .lss (.t 15) (.t 18), none, []⟩]
def f54.r5 : List IOper := [
⟨some 22, .faddr 1 1 (.t 1), none, []⟩,
⟨some 23, .load 1 false (.t 22), none, []⟩,
⟨some 24, .mv (.t 3), none, []⟩,
⟨some 25, .iaddr 2 (.t 23) (.t 24), none, []⟩,
⟨some 26, .load 2 true (.t 25), none, []⟩,
⟨some 4, .alloc [.d (.str []), .d (.int .i64 0)], none, []⟩,
⟨none, .store 2 (.t 4) (.t 26), none, []⟩]
def f54.r6 : List IOper := [
⟨some 27, .faddr 0 1 (.t 4), none, []⟩,
⟨some 28, .load 1 false (.t 27), none, [0]⟩,
⟨some 29, .call 89 [(.t 28)], none, [1]⟩,
⟨some 30, .un .not (.t 29), none, [2]⟩,
⟨some 31, .mv (.t 30), none, [3, 2]⟩,
⟨some 32, .faddr 1 1 (.t 4), some (31, false), [4]⟩,
⟨some 33, .load 1 false (.t 32), some (31, false), [5, 4]⟩,
⟨some 34, .bin .eql (.t 33) (.c (.d (.int .i64 0))), some (31, false), [6, 4]⟩,
⟨some 35, .pick (.t 31) (.c (.d (.bool true))) (.t 34), none, [4, 7]⟩,
⟨some 36, .mv (.t 35), none, [8, 4]⟩,
⟨some 37, .faddr 1 1 (.t 4), some (36, false), [9]⟩,
⟨some 38, .load 1 false (.t 37), some (36, false), [10, 9]⟩,
⟨some 39, .call 88 [(.t 38)], some (36, false), [11, 9, 9]⟩,
⟨some 40, .un .not (.t 39), some (36, false), [12, 9]⟩,
⟨some 41, .pick (.t 36) (.c (.d (.bool true))) (.t 40), none, [9, 13]⟩,
⟨some 42, .mv (.t 41), none, [14, 12]⟩,
⟨some 43, .mv (.t 3), some (42, false), [15]⟩,
⟨some 44, .bin .gtr (.t 43) (.c (.d (.int .i64 0))), some (42, false), [16, 15]⟩,
⟨some 45, .mv (.t 44), some (42, false), [17, 15, 15]⟩,
⟨some 46, .faddr 1 1 (.t 1), some (45, true), [18]⟩,
⟨some 47, .load 1 false (.t 46), some (45, true), [19, 18]⟩,
⟨some 48, .mv (.t 3), some (45, true), [18]⟩,
⟨some 49, .bin .sub (.t 48) (.c (.d (.int .i64 1))), some (45, true), [21, 18]⟩,
⟨some 50, .iaddr 2 (.t 47) (.t 49), some (45, true), [20, 22, 18]⟩,
⟨some 51, .faddr 0 1 (.t 50), some (45, true), [23, 18]⟩,
⟨some 52, .load 1 false (.t 51), some (45, true), [24, 18]⟩,
⟨some 53, .faddr 0 1 (.t 4), some (45, true), [18]⟩,
⟨some 54, .load 1 false (.t 53), some (45, true), [26, 18]⟩,
⟨some 55, .bin .geq (.t 52) (.t 54), some (45, true), [25, 27, 18]⟩,
⟨some 56, .pick (.t 45) (.t 55) (.c (.d (.bool false))), some (42, false), [18, 28, 15]⟩,
⟨some 57, .pick (.t 42) (.c (.d (.bool true))) (.t 56), none, [15, 29]⟩]
def f54.r7 : List IOper := [
⟨some 2, .mv (.c (.d (.bool false))), none, []⟩]
def f54.r8 : List IOper := [
⟨some 20, .mv (.t 3), none, []⟩,
⟨some 21, .bin .add (.t 20) (.c (.d (.int .i64 1))), none, []⟩,
⟨some 3, .mv (.t 21), none, []⟩]
def f54.l9 : IR := (.seq (.seq (.region f54.r4) (.cond (.t 19) .skip (.exit 0))) (.seq (.block 1 (.seq (.region f54.r5) (.seq (.draw f54.r6) (.cond (.t 57) (.seq (.region f54.r7) .ret) .skip)))) (.region f54.r8)))
def f54.r10 : List IOper := [
⟨some 2, .mv (.c (.d (.bool true))), none, []⟩]
def f54 : IFn := ⟨1, 58, [.t 2], (.seq (.region f54.r0) (.seq (.seq (.region f54.r1) (.cond (.t 14) (.seq (.region f54.r2) .ret) .skip)) (.seq (.seq (.region f54.r3) (.block 0 (.loop f54.l9))) (.seq (.region f54.r10) .ret))))⟩
def f57.r0 : List IOper := [
⟨some 5, .mv (.t 0), none, []⟩,
⟨some 6, .len .slice (.t 5), none, []⟩,
⟨some 7, .mv (.c (.d (.int .i64 0))), none, []⟩]
def f57.r1 : List IOper := [
⟨some 8, .bin .lss (.t 7) (.t 6), none, []⟩]
def f57.r2 : List IOper := [
⟨some 9, .iaddr 2 (.t 5) (.t 7), none, []⟩,
⟨some 10, .load 2 true (.t 9), none, []⟩,
⟨some 4, .alloc [.d (.str []), .d (.str [])], none, []⟩,
⟨none, .store 2 (.t 4) (.t 10), none, []⟩]
def f57.r3 : List IOper := [
⟨some 11, .load 1 false (.t 1), none, []⟩,
⟨some 12, .faddr 0 1 (.t 4), none, []⟩,
⟨some 13, .load 1 false (.t 12), none, [1]⟩,
⟨some 14, .call 58 [(.t 13)], none, [2]⟩,
⟨some 15, .append 1 16 (.t 11) (.t 14), none, [0, 3, 3]⟩,
⟨none, .store 1 (.t 1) (.t 15), none, [4, 4, 0, 1, 2, 3, 4]⟩]
def f57.r4 : List IOper := [
⟨some 16, .bin .add (.t 7) (.c (.d (.int .i64 1))), none, []⟩,
⟨some 7, .mv (.t 16), none, []⟩]
def f57.l5 : IR := (.seq (.region f57.r1) (.seq (.cond (.t 8) .skip (.exit 0)) (.seq (.block 1 (.seq (.region f57.r2) (.draw f57.r3))) (.region f57.r4))))
def f57 : IFn := ⟨2, 17, [], (.seq (.region f57.r0) (.block 0 (.loop f57.l5)))⟩
def f59.r0 : List IOper := [
⟨some 0, .mv (.c (.nils)), none, []⟩]
def f59.r1 : List IOper := [
⟨some 1, .build [.d (.str []), .d (.str [])] [(0, 1, (.c (.d (.str [97, 100, 100, 32, 115, 117, 98, 32, 109, 117, 108, 32, 100, 105, 118, 32, 109, 111, 100, 32, 109, 105, 110, 32, 109, 97, 120])))), (1, 1, (.c (.d (.str [40, 105, 110, 116, 44, 32, 105, 110, 116, 41, 32, 45, 62, 32, 105, 110, 116]))))], none, []⟩,
⟨some 2, .build [.d (.str []), .d (.str [])] [(0, 1, (.c (.d (.str [110, 101, 103, 32, 97, 98, 115, 32, 115, 105, 103, 110])))), (1, 1, (.c (.d (.str [40, 105, 110, 116, 41, 32, 45, 62, 32, 105, 110, 116]))))], none, []⟩,
⟨some 3, .build [.d (.str []), .d (.str [])] [(0, 1, (.c (.d (.str [108, 116, 32, 108, 101, 32, 103, 116, 32, 103, 101])))), (1, 1, (.c (.d (.str [40, 105, 110, 116, 44, 32, 105, 110, 116, 41, 32, 45, 62, 32, 98, 111, 111, 108]))))], none, []⟩,
⟨some 4, .build [.d (.str []), .d (.str [])] [(0, 1, (.c (.d (.str [101, 113, 32, 110, 101])))), (1, 1, (.c (.d (.str [40, 65, 44, 32, 65, 41, 32, 45, 62, 32, 98, 111, 111, 108]))))], none, []⟩,
⟨some 5, .build [.d (.str []), .d (.str [])] [(0, 1, (.c (.d (.str [97, 110, 100, 32, 111, 114, 32, 120, 111, 114])))), (1, 1, (.c (.d (.str [40, 98, 111, 111, 108, 44, 32, 98, 111, 111, 108, 41, 32, 45, 62, 32, 98, 111, 111, 108]))))], none, []⟩,
⟨some 6, .build [.d (.str []), .d (.str [])] [(0, 1, (.c (.d (.str [110, 111, 116])))), (1, 1, (.c (.d (.str [40, 98, 111, 111, 108, 41, 32, 45, 62, 32, 98, 111, 111, 108]))))], none, []⟩,
⟨some 7, .build [.d (.str []), .d (.str [])] [(0, 1, (.c (.d (.str [115, 101, 108, 101, 99, 116])))), (1, 1, (.c (.d (.str [40, 98, 111, 111, 108, 44, 32, 65, 44, 32, 65, 41, 32, 45, 62, 32, 65]))))], none, []⟩,
⟨some 8, .build [.d (.str []), .d (.str [])] [(0, 1, (.c (.d (.str [116, 111, 105, 110, 116])))), (1, 1, (.c (.d (.str [40, 98, 111, 111, 108, 41, 32, 45, 62, 32, 105, 110, 116]))))], none, []⟩,
⟨some 9, .mkSlice 2 8 [.d (.str []), .d (.str []), .d (.str []), .d (.str []), .d (.str []), .d (.str []), .d (.str []), .d (.str []), .d (.str []), .d (.str []), .d (.str []), .d (.str []), .d (.str []), .d (.str []), .d (.str []), .d (.str [])] [(0, 2, (.t 1)), (2, 2, (.t 2)), (4, 2, (.t 3)), (6, 2, (.t 4)), (8, 2, (.t 5)), (10, 2, (.t 6)), (12, 2, (.t 7)), (14, 2, (.t 8))], none, []⟩,
⟨some 0, .mv (.t 9), none, []⟩]
def f59 : IFn := ⟨0, 10, [.t 0], (.seq (.region f59.r0) (.seq (.region f59.r1) .ret))⟩
def f60.r0 : List IOper := [
⟨some 0, .mv (.c (.nils)), none, []⟩]
def f60.r1 : List IOper := [
⟨some 1, .build [.d (.str []), .d (.str [])] [(0, 1, (.c (.d (.str [105, 111, 116, 97])))), (1, 1, (.c (.d (.str [40, 41, 32, 45, 62, 32, 91, 107, 93, 105, 110, 116, 32, 119, 104, 101, 114, 101, 32, 107]))))], none, []⟩,
⟨some 2, .build [.d (.str []), .d (.str [])] [(0, 1, (.c (.d (.str [102, 105, 108, 108])))), (1, 1, (.c (.d (.str [40, 65, 41, 32, 45, 62, 32, 91, 107, 93, 65, 32, 119, 104, 101, 114, 101, 32, 107]))))], none, []⟩,
⟨some 3, .build [.d (.str []), .d (.str [])] [(0, 1, (.c (.d (.str [116, 97, 107, 101])))), (1, 1, (.c (.d (.str [40, 91, 110, 93, 65, 41, 32, 45, 62, 32, 91, 107, 93, 65, 32, 119, 104, 101, 114, 101, 32, 107, 44, 32, 45, 107, 43, 110]))))], none, []⟩,
⟨some 4, .build [.d (.str []), .d (.str [])] [(0, 1, (.c (.d (.str [100, 114, 111, 112])))), (1, 1, (.c (.d (.str [40, 91, 110, 93, 65, 41, 32, 45, 62, 32, 91, 45, 107, 43, 110, 93, 65, 32, 119, 104, 101, 114, 101, 32, 107, 44, 32, 45, 107, 43, 110]))))], none, []⟩,
⟨some 5, .build [.d (.str []), .d (.str [])] [(0, 1, (.c (.d (.str [114, 101, 118, 101, 114, 115, 101])))), (1, 1, (.c (.d (.str [40, 91, 110, 93, 65, 41, 32, 45, 62, 32, 91, 110, 93, 65]))))], none, []⟩,
⟨some 6, .build [.d (.str []), .d (.str [])] [(0, 1, (.c (.d (.str [97, 112, 112, 101, 110, 100])))), (1, 1, (.c (.d (.str [40, 91, 110, 93, 65, 44, 32, 91, 109, 93, 65, 41, 32, 45, 62, 32, 91, 109, 43, 110, 93, 65]))))], none, []⟩,
⟨some 7, .build [.d (.str []), .d (.str [])] [(0, 1, (.c (.d (.str [116, 114, 97, 110, 115, 112, 111, 115, 101])))), (1, 1, (.c (.d (.str [40, 91, 110, 44, 32, 109, 93, 65, 41, 32, 45, 62, 32, 91, 109, 44, 32, 110, 93, 65]))))], none, []⟩,
⟨some 8, .build [.d (.str []), .d (.str [])] [(0, 1, (.c (.d (.str [100, 105, 97, 103, 111, 110, 97, 108])))), (1, 1, (.c (.d (.str [40, 91, 110, 44, 32, 110, 93, 65, 41, 32, 45, 62, 32, 91, 110, 93, 65]))))], none, []⟩,
⟨some 9, .build [.d (.str []), .d (.str [])] [(0, 1, (.c (.d (.str [119, 105, 110, 100, 111, 119, 115])))), (1, 1, (.c (.d (.str [40, 91, 110, 93, 65, 41, 32, 45, 62, 32, 91, 45, 107, 43, 110, 43, 49, 44, 32, 107, 93, 65, 32, 119, 104, 101, 114, 101, 32, 107, 44, 32, 45, 107, 43, 110]))))], none, []⟩,
⟨some 10, .build [.d (.str []), .d (.str [])] [(0, 1, (.c (.d (.str [105, 110, 100, 101, 120])))), (1, 1, (.c (.d (.str [40, 91, 110, 93, 65, 44, 32, 105, 110, 116, 41, 32, 45, 62, 32, 65]))))], none, []⟩,
⟨some 11, .build [.d (.str []), .d (.str [])] [(0, 1, (.c (.d (.str [117, 112, 100, 97, 116, 101])))), (1, 1, (.c (.d (.str [40, 91, 110, 93, 65, 44, 32, 105, 110, 116, 44, 32, 65, 41, 32, 45, 62, 32, 91, 110, 93, 65]))))], none, []⟩,
⟨some 12, .mkSlice 2 11 [.d (.str []), .d (.str []), .d (.str []), .d (.str []), .d (.str []), .d (.str []), .d (.str []), .d (.str []), .d (.str []), .d (.str []), .d (.str []), .d (.str []), .d (.str []), .d (.str []), .d (.str []), .d (.str []), .d (.str []), .d (.str []), .d (.str []), .d (.str []), .d (.str []), .d (.str [])] [(0, 2, (.t 1)), (2, 2, (.t 2)), (4, 2, (.t 3)), (6, 2, (.t 4)), (8, 2, (.t 5)), (10, 2, (.t 6)), (12, 2, (.t 7)), (14, 2, (.t 8)), (16, 2, (.t 9)), (18, 2, (.t 10)), (20, 2, (.t 11))], none, []⟩,
⟨some 0, .mv (.t 12), none, []⟩]
def f60 : IFn := ⟨0, 13, [.t 0], (.seq (.region f60.r0) (.seq (.region f60.r1) .ret))⟩
def f61.r0 : List IOper := [
⟨some 3, .mv (.t 0), none, []⟩,
⟨some 4, .len .slice (.t 3), none, []⟩,
⟨some 2, .mv (.t 4), none, []⟩]
def f61.r1 : List IOper := [
⟨some 5, .mv (.t 0), none, []⟩,
⟨some 6, .mv (.t 2), none, []⟩,
⟨some 7, .mv (.t 2), none, []⟩,
⟨some 8, .conv .u64 (.t 7), none, []⟩,
⟨some 9, .call 94 [(.t 8)], none, []⟩,
⟨some 10, .call 93 [(.t 5), (.c (.d (.int .i64 0))), (.t 6), (.t 9)], none, []⟩]
def f61 : IFn := ⟨1, 11, [], (.seq (.region f61.r0) (.region f61.r1))⟩
def f62.r0 : List IOper := [
⟨some 4, .mv (.c (.d (.str []))), none, []⟩,
⟨some 5, .mv (.c (.d (.bool false))), none, []⟩]
def f62.r1 : List IOper := [
⟨some 8, .mv (.t 0), none, []⟩,
⟨some 9, .len .slice (.t 8), none, []⟩,
⟨some 10, .mv (.c (.d (.int .i64 0))), none, []⟩]
def f62.r2 : List IOper := [
⟨some 11, .bin .lss (.t 10) (.t 9), none, []⟩]
def f62.r3 : List IOper := [
⟨some 12, .iaddr 2 (.t 8) (.t 10), none, []⟩,
⟨some 13, .load 2 true (.t 12), none, []⟩,
⟨some 7, .alloc [.d (.str []), .d (.str [])], none, []⟩,
⟨none, .store 2 (.t 7) (.t 13), none, []⟩]
def f62.r4 : List IOper := [
⟨some 14, .faddr 0 1 (.t 7), none, []⟩,
⟨some 15, .load 1 false (.t 14), none, []⟩,
⟨some 16, .call 58 [(.t 15)], none, []⟩,
⟨some 17, .mv (.t 1), none, []⟩,
⟨some 18, .call 95 [(.t 16), (.t 17)], none, []⟩]
def f62.r5 : List IOper := [
⟨some 19, .faddr 1 1 (.t 7), none, []⟩,
⟨some 20, .load 1 false (.t 19), none, []⟩,
⟨some 4, .mv (.t 20), none, []⟩,
⟨some 5, .mv (.c (.d (.bool true))), none, []⟩]
def f62.r6 : List IOper := [
⟨some 21, .bin .add (.t 10) (.c (.d (.int .i64 1))), none, []⟩,
⟨some 10, .mv (.t 21), none, []⟩]
def f62.l7 : IR := (.seq (.region f62.r2) (.seq (.cond (.t 11) .skip (.exit 0)) (.seq (.block 1 (.seq (.region f62.r3) (.seq (.region f62.r4) (.cond (.t 18) (.seq (.region f62.r5) .ret) .skip)))) (.region f62.r6))))
def f62.r8 : List IOper := [
⟨some 4, .mv (.c (.d (.str []))), none, []⟩,
⟨some 5, .mv (.c (.d (.bool false))), none, []⟩]
def f62 : IFn := ⟨2, 22, [.t 4, .t 5], (.seq (.region f62.r0) (.seq (.seq (.region f62.r1) (.block 0 (.loop f62.l7))) (.seq (.region f62.r8) .ret)))⟩
def f63.r0 : List IOper := [
⟨some 2, .alloc [.nils, .d (.str []), .d (.str []), .nils, .nils], none, []⟩,
⟨some 3, .mv (.c (.d (.int .i64 0))), none, []⟩]
def f63.r1 : List IOper := [
⟨some 25, .mv (.t 0), none, []⟩,
⟨some 26, .call 96 [(.t 25), (.c (.d (.str [41, 32, 45, 62, 32])))], none, []⟩,
⟨some 24, .mv (.t 26), none, []⟩,
⟨some 27, .ext (.t 24) 0, none, []⟩,
⟨some 28, .ext (.t 24) 1, none, []⟩,
⟨some 29, .ext (.t 24) 2, none, []⟩,
⟨some 4, .mv (.t 27), none, []⟩,
⟨some 5, .mv (.t 28), none, []⟩,
⟨some 6, .mv (.t 29), none, []⟩]
def f63.r2 : List IOper := [
⟨some 31, .mv (.t 4), none, []⟩,
⟨some 32, .call 97 [(.t 31), (.c (.d (.str [40])))], none, []⟩,
⟨some 30, .mv (.t 32), none, []⟩,
⟨some 33, .ext (.t 30) 0, none, []⟩,
⟨some 34, .ext (.t 30) 1, none, []⟩,
⟨some 4, .mv (.t 33), none, []⟩,
⟨some 7, .mv (.t 34), none, []⟩]
def f63.r3 : List IOper := [
⟨some 35, .mv (.t 6), none, []⟩,
⟨some 36, .un .not (.t 35), none, []⟩,
⟨some 37, .mv (.t 36), none, []⟩,
⟨some 38, .mv (.t 7), some (37, false), []⟩,
⟨some 39, .un .not (.t 38), some (37, false), []⟩,
⟨some 40, .pick (.t 37) (.c (.d (.bool true))) (.t 39), none, []⟩]
def f63.r4 : List IOper := [
⟨some 41, .build [.nils, .d (.str []), .d (.str []), .nils, .nils] [], none, []⟩,
⟨none, .store 5 (.t 2) (.t 41), none, []⟩,
⟨some 3, .mv (.c (.d (.int .i64 6))), none, []⟩]
def f63.r5 : List IOper := [
⟨some 8, .alloc [.nils, .d (.str []), .d (.str []), .nils, .nils], none, []⟩]
def f63.r6 : List IOper := [
⟨some 42, .mv (.t 4), none, []⟩,
⟨some 43, .bin .neq (.t 42) (.c (.d (.str []))), none, []⟩]
def f63.r7 : List IOper := [
⟨some 44, .mv (.t 4), none, []⟩,
⟨some 45, .call 98 [(.t 44)], none, []⟩,
⟨some 46, .len .slice (.t 45), none, []⟩,
⟨some 47, .mv (.c (.d (.int .i64 0))), none, []⟩]
def f63.r8 : List IOper := [
⟨some 48, .bin .lss (.t 47) (.t 46), none, []⟩]
def f63.r9 : List IOper := [
⟨some 49, .iaddr 1 (.t 45) (.t 47), none, []⟩,
⟨some 50, .load 1 false (.t 49), none, []⟩,
⟨some 10, .mv (.t 50), none, []⟩]
def f63.r10 : List IOper := [
⟨some 52, .mv (.t 10), none, []⟩,
⟨some 53, .call 99 [(.t 52)], none, []⟩,
⟨some 51, .mv (.t 53), none, []⟩,
⟨some 54, .ext (.t 51) 0, none, []⟩,
⟨some 55, .ext (.t 51) 1, none, []⟩,
⟨some 11, .alloc [.d (.str []), .d (.str []), .nils], none, []⟩,
⟨none, .store 3 (.t 11) (.t 54), none, []⟩,
⟨some 12, .mv (.t 55), none, []⟩]
def f63.r11 : List IOper := [
⟨some 56, .mv (.t 12), none, []⟩,
⟨some 57, .bin .neq (.t 56) (.c (.d (.int .i64 0))), none, []⟩]
def f63.r12 : List IOper := [
⟨some 58, .build [.nils, .d (.str []), .d (.str []), .nils, .nils] [], none, []⟩,
⟨none, .store 5 (.t 2) (.t 58), none, []⟩,
⟨some 3, .mv (.c (.d (.int .i64 6))), none, []⟩]
def f63.r13 : List IOper := [
⟨some 59, .faddr 0 1 (.t 8), none, []⟩,
⟨some 60, .load 1 false (.t 59), none, []⟩,
⟨some 61, .load 3 true (.t 11), none, []⟩,
⟨some 62, .mkSlice 3 1 [.d (.str []), .d (.str []), .nils] [(0, 3, (.t 61))], none, []⟩,
⟨some 63, .append 3 56 (.t 60) (.t 62), none, []⟩,
⟨some 64, .faddr 0 1 (.t 8), none, []⟩,
⟨none, .store 1 (.t 64) (.t 63), none, []⟩]
def f63.r14 : List IOper := [
⟨some 65, .bin .add (.t 47) (.c (.d (.int .i64 1))), none, []⟩,
⟨some 47, .mv (.t 65), none, []⟩]
def f63.l15 : IR := (.seq (.region f63.r8) (.seq (.cond (.t 48) .skip (.exit 0)) (.seq (.block 1 (.seq (.region f63.r9) (.seq (.region f63.r10) (.seq (.seq (.region f63.r11) (.cond (.t 57) (.seq (.region f63.r12) .ret) .skip)) (.region f63.r13))))) (.region f63.r14))))
def f63.r16 : List IOper := [
⟨some 67, .mv (.t 5), none, []⟩,
⟨some 68, .call 96 [(.t 67), (.c (.d (.str [32, 119, 104, 101, 114, 101, 32])))], none, []⟩,
⟨some 66, .mv (.t 68), none, []⟩,
⟨some 69, .ext (.t 66) 0, none, []⟩,
⟨some 70, .ext (.t 66) 1, none, []⟩,
⟨some 71, .ext (.t 66) 2, none, []⟩,
⟨some 13, .mv (.t 69), none, []⟩,
⟨some 14, .mv (.t 70), none, []⟩,
⟨some 15, .mv (.t 71), none, []⟩]
def f63.r17 : List IOper := [
⟨some 73, .mv (.t 13), none, []⟩,
⟨some 74, .call 99 [(.t 73)], none, []⟩,
⟨some 72, .mv (.t 74), none, []⟩,
⟨some 75, .ext (.t 72) 0, none, []⟩,
⟨some 76, .ext (.t 72) 1, none, []⟩,
⟨some 16, .alloc [.d (.str []), .d (.str []), .nils], none, []⟩,
⟨none, .store 3 (.t 16) (.t 75), none, []⟩,
⟨some 17, .mv (.t 76), none, []⟩]
def f63.r18 : List IOper := [
⟨some 77, .mv (.t 17), none, []⟩,
⟨some 78, .bin .neq (.t 77) (.c (.d (.int .i64 0))), none, []⟩]
def f63.r19 : List IOper := [
⟨some 79, .build [.nils, .d (.str []), .d (.str []), .nils, .nils] [], none, []⟩,
⟨none, .store 5 (.t 2) (.t 79), none, []⟩,
⟨some 3, .mv (.c (.d (.int .i64 6))), none, []⟩]
def f63.r20 : List IOper := [
⟨some 80, .load 3 true (.t 16), none, []⟩,
⟨some 81, .faddr 1 3 (.t 8), none, []⟩,
⟨none, .store 3 (.t 81) (.t 80), none, []⟩]
def f63.r21 : List IOper := [
⟨some 82, .mv (.t 15), none, []⟩]
def f63.r22 : List IOper := [
⟨some 83, .mv (.t 14), none, []⟩,
⟨some 84, .call 100 [(.t 83), (.c (.d (.str [44, 32])))], none, []⟩,
⟨some 85, .len .slice (.t 84), none, []⟩,
⟨some 86, .mv (.c (.d (.int .i64 0))), none, []⟩]
def f63.r23 : List IOper := [
⟨some 87, .bin .lss (.t 86) (.t 85), none, []⟩]
def f63.r24 : List IOper := [
⟨some 88, .iaddr 1 (.t 84) (.t 86), none, []⟩,
⟨some 89, .load 1 false (.t 88), none, []⟩,
⟨some 19, .mv (.t 89), none, []⟩]
def f63.r25 : List IOper := [
⟨some 91, .mv (.t 19), none, []⟩,
⟨some 92, .call 101 [(.t 91)], none, []⟩,
⟨some 90, .mv (.t 92), none, []⟩,
⟨some 93, .ext (.t 90) 0, none, []⟩,
⟨some 94, .ext (.t 90) 1, none, []⟩,
⟨some 20, .alloc [.d (.int .i64 0), .nils], none, []⟩,
⟨none, .store 2 (.t 20) (.t 93), none, []⟩,
⟨some 21, .mv (.t 94), none, []⟩]
def f63.r26 : List IOper := [
⟨some 95, .mv (.t 21), none, []⟩,
⟨some 96, .bin .neq (.t 95) (.c (.d (.int .i64 0))), none, []⟩]
def f63.r27 : List IOper := [
⟨some 97, .build [.nils, .d (.str []), .d (.str []), .nils, .nils] [], none, []⟩,
⟨none, .store 5 (.t 2) (.t 97), none, []⟩,
⟨some 3, .mv (.c (.d (.int .i64 6))), none, []⟩]
def f63.r28 : List IOper := [
⟨some 98, .faddr 4 1 (.t 8), none, []⟩,
⟨some 99, .load 1 false (.t 98), none, []⟩,
⟨some 100, .load 2 true (.t 20), none, []⟩,
⟨some 101, .mkSlice 2 1 [.d (.int .i64 0), .nils] [(0, 2, (.t 100))], none, []⟩,
⟨some 102, .append 2 32 (.t 99) (.t 101), none, []⟩,
⟨some 103, .faddr 4 1 (.t 8), none, []⟩,
⟨none, .store 1 (.t 103) (.t 102), none, []⟩]
def f63.r29 : List IOper := [
⟨some 104, .bin .add (.t 86) (.c (.d (.int .i64 1))), none, []⟩,
⟨some 86, .mv (.t 104), none, []⟩]
def f63.l30 : IR := (.seq (.region f63.r23) (.seq (.cond (.t 87) .skip (.exit 2)) (.seq (.block 3 (.seq (.region f63.r24) (.seq (.region f63.r25) (.seq (.seq (.region f63.r26) (.cond (.t 96) (.seq (.region f63.r27) .ret) .skip)) (.region f63.r28))))) (.region f63.r29))))
def f63.r31 : List IOper := [
⟨some 106, .load 5 true (.t 8), none, []⟩,
⟨some 107, .call 102 [(.t 106)], none, []⟩,
⟨some 105, .mv (.t 107), none, []⟩,
⟨some 108, .ext (.t 105) 0, none, []⟩,
⟨some 109, .ext (.t 105) 1, none, []⟩,
⟨some 22, .mv (.t 108), none, []⟩,
⟨some 23, .mv (.t 109), none, []⟩]
def f63.r32 : List IOper := [
⟨some 110, .mv (.t 23), none, []⟩,
⟨some 111, .bin .neq (.t 110) (.c (.d (.int .i64 0))), none, []⟩,
⟨some 112, .mv (.t 111), none, []⟩,
⟨some 113, .mv (.t 22), some (112, false), []⟩,
⟨some 114, .mv (.t 0), some (112, false), []⟩,
⟨some 115, .bin .neq (.t 113) (.t 114), some (112, false), []⟩,
⟨some 116, .pick (.t 112) (.c (.d (.bool true))) (.t 115), none, []⟩]
def f63.r33 : List IOper := [
⟨some 117, .build [.nils, .d (.str []), .d (.str []), .nils, .nils] [], none, []⟩,
⟨none, .store 5 (.t 2) (.t 117), none, []⟩,
⟨some 3, .mv (.c (.d (.int .i64 6))), none, []⟩]
def f63.r34 : List IOper := [
⟨some 118, .load 5 true (.t 8), none, []⟩,
⟨none, .store 5 (.t 2) (.t 118), none, []⟩,
⟨some 3, .mv (.c (.d (.int .i64 0))), none, []⟩]
def f63 : IFn := ⟨1, 119, [.cell 2 5 true, .t 3], (.seq (.region f63.r0) (.seq (.region f63.r1) (.seq (.region f63.r2) (.seq (.seq (.region f63.r3) (.cond (.t 40) (.seq (.region f63.r4) .ret) .skip)) (.seq (.region f63.r5) (.seq (.seq (.region f63.r6) (.cond (.t 43) (.seq (.region f63.r7) (.block 0 (.loop f63.l15))) .skip)) (.seq (.region f63.r16) (.seq (.region f63.r17) (.seq (.seq (.region f63.r18) (.cond (.t 78) (.seq (.region f63.r19) .ret) .skip)) (.seq (.region f63.r20) (.seq (.seq (.region f63.r21) (.cond (.t 82) (.seq (.region f63.r22) (.block 2 (.loop f63.l30))) .skip)) (.seq (.seq (.region f63.r31) (.seq (.region f63.r32) (.cond (.t 116) (.seq (.region f63.r33) .ret) .skip))) (.seq (.region f63.r34) .ret)))))))))))))⟩
def f73.r0 : List IOper := [
⟨some 0, .alloc [.d (.str []), .d (.bool false), .d (.str []), .d (.int .i64 0), .d (.str []), .d (.bool false), .d (.str []), .d (.int .i64 0), .d (.str []), .d (.bool false), .d (.str []), .d (.int .i64 0), .d (.str []), .d (.bool false), .d (.str []), .d (.int .i64 0), .d (.str []), .d (.bool false), .d (.str []), .d (.int .i64 0), .d (.str []), .d (.bool false), .d (.str []), .d (.int .i64 0), .d (.str []), .d (.bool false), .d (.str []), .d (.int .i64 0), .d (.str []), .d (.bool false), .d (.str []), .d (.int .i64 0), .d (.str []), .d (.bool false), .d (.str []), .d (.int .i64 0), .d (.str []), .d (.bool false), .d (.str []), .d (.int .i64 0), .d (.str []), .d (.bool false), .d (.str []), .d (.int .i64 0), .d (.str []), .d (.bool false), .d (.str []), .d (.int .i64 0), .d (.str []), .d (.bool false), .d (.str []), .d (.int .i64 0), .d (.str []), .d (.bool false), .d (.str []), .d (.int .i64 0), .d (.str []), .d (.bool false), .d (.str []), .d (.int .i64 0)], none, []⟩]
def f73.r1 : List IOper := [
⟨some 1, .build [.d (.str []), .d (.bool false), .d (.str []), .d (.int .i64 0)] [(0, 1, (.c (.d (.str [124, 124])))), (1, 1, (.c (.d (.bool false)))), (2, 1, (.c (.d (.str [111, 114])))), (3, 1, (.c (.d (.int .i64 1))))], none, []⟩,
⟨some 2, .build [.d (.str []), .d (.bool false), .d (.str []), .d (.int .i64 0)] [(0, 1, (.c (.d (.str [38, 38])))), (1, 1, (.c (.d (.bool false)))), (2, 1, (.c (.d (.str [97, 110, 100])))), (3, 1, (.c (.d (.int .i64 2))))], none, []⟩,
⟨some 3, .build [.d (.str []), .d (.bool false), .d (.str []), .d (.int .i64 0)] [(0, 1, (.c (.d (.str [61, 61])))), (1, 1, (.c (.d (.bool false)))), (2, 1, (.c (.d (.str [101, 113])))), (3, 1, (.c (.d (.int .i64 3))))], none, []⟩,
⟨some 4, .build [.d (.str []), .d (.bool false), .d (.str []), .d (.int .i64 0)] [(0, 1, (.c (.d (.str [33, 61])))), (1, 1, (.c (.d (.bool false)))), (2, 1, (.c (.d (.str [110, 101])))), (3, 1, (.c (.d (.int .i64 3))))], none, []⟩,
⟨some 5, .build [.d (.str []), .d (.bool false), .d (.str []), .d (.int .i64 0)] [(0, 1, (.c (.d (.str [60])))), (1, 1, (.c (.d (.bool false)))), (2, 1, (.c (.d (.str [108, 116])))), (3, 1, (.c (.d (.int .i64 3))))], none, []⟩,
⟨some 6, .build [.d (.str []), .d (.bool false), .d (.str []), .d (.int .i64 0)] [(0, 1, (.c (.d (.str [60, 61])))), (1, 1, (.c (.d (.bool false)))), (2, 1, (.c (.d (.str [108, 101])))), (3, 1, (.c (.d (.int .i64 3))))], none, []⟩,
⟨some 7, .build [.d (.str []), .d (.bool false), .d (.str []), .d (.int .i64 0)] [(0, 1, (.c (.d (.str [62])))), (1, 1, (.c (.d (.bool false)))), (2, 1, (.c (.d (.str [103, 116])))), (3, 1, (.c (.d (.int .i64 3))))], none, []⟩,
⟨some 8, .build [.d (.str []), .d (.bool false), .d (.str []), .d (.int .i64 0)] [(0, 1, (.c (.d (.str [62, 61])))), (1, 1, (.c (.d (.bool false)))), (2, 1, (.c (.d (.str [103, 101])))), (3, 1, (.c (.d (.int .i64 3))))], none, []⟩,
⟨some 9, .build [.d (.str []), .d (.bool false), .d (.str []), .d (.int .i64 0)] [(0, 1, (.c (.d (.str [43])))), (1, 1, (.c (.d (.bool false)))), (2, 1, (.c (.d (.str [97, 100, 100])))), (3, 1, (.c (.d (.int .i64 4))))], none, []⟩,
⟨some 10, .build [.d (.str []), .d (.bool false), .d (.str []), .d (.int .i64 0)] [(0, 1, (.c (.d (.str [45])))), (1, 1, (.c (.d (.bool false)))), (2, 1, (.c (.d (.str [115, 117, 98])))), (3, 1, (.c (.d (.int .i64 4))))], none, []⟩,
⟨some 11, .build [.d (.str []), .d (.bool false), .d (.str []), .d (.int .i64 0)] [(0, 1, (.c (.d (.str [42])))), (1, 1, (.c (.d (.bool false)))), (2, 1, (.c (.d (.str [109, 117, 108])))), (3, 1, (.c (.d (.int .i64 5))))], none, []⟩,
⟨some 12, .build [.d (.str []), .d (.bool false), .d (.str []), .d (.int .i64 0)] [(0, 1, (.c (.d (.str [47])))), (1, 1, (.c (.d (.bool false)))), (2, 1, (.c (.d (.str [100, 105, 118])))), (3, 1, (.c (.d (.int .i64 5))))], none, []⟩,
⟨some 13, .build [.d (.str []), .d (.bool false), .d (.str []), .d (.int .i64 0)] [(0, 1, (.c (.d (.str [37])))), (1, 1, (.c (.d (.bool false)))), (2, 1, (.c (.d (.str [109, 111, 100])))), (3, 1, (.c (.d (.int .i64 5))))], none, []⟩,
⟨some 14, .build [.d (.str []), .d (.bool false), .d (.str []), .d (.int .i64 0)] [(0, 1, (.c (.d (.str [45])))), (1, 1, (.c (.d (.bool true)))), (2, 1, (.c (.d (.str [110, 101, 103])))), (3, 1, (.c (.d (.int .i64 6))))], none, []⟩,
⟨some 15, .build [.d (.str []), .d (.bool false), .d (.str []), .d (.int .i64 0)] [(0, 1, (.c (.d (.str [33])))), (1, 1, (.c (.d (.bool true)))), (2, 1, (.c (.d (.str [110, 111, 116])))), (3, 1, (.c (.d (.int .i64 6))))], none, []⟩,
⟨some 16, .build [.d (.str []), .d (.bool false), .d (.str []), .d (.int .i64 0), .d (.str []), .d (.bool false), .d (.str []), .d (.int .i64 0), .d (.str []), .d (.bool false), .d (.str []), .d (.int .i64 0), .d (.str []), .d (.bool false), .d (.str []), .d (.int .i64 0), .d (.str []), .d (.bool false), .d (.str []), .d (.int .i64 0), .d (.str []), .d (.bool false), .d (.str []), .d (.int .i64 0), .d (.str []), .d (.bool false), .d (.str []), .d (.int .i64 0), .d (.str []), .d (.bool false), .d (.str []), .d (.int .i64 0), .d (.str []), .d (.bool false), .d (.str []), .d (.int .i64 0), .d (.str []), .d (.bool false), .d (.str []), .d (.int .i64 0), .d (.str []), .d (.bool false), .d (.str []), .d (.int .i64 0), .d (.str []), .d (.bool false), .d (.str []), .d (.int .i64 0), .d (.str []), .d (.bool false), .d (.str []), .d (.int .i64 0), .d (.str []), .d (.bool false), .d (.str []), .d (.int .i64 0), .d (.str []), .d (.bool false), .d (.str []), .d (.int .i64 0)] [(0, 4, (.t 1)), (4, 4, (.t 2)), (8, 4, (.t 3)), (12, 4, (.t 4)), (16, 4, (.t 5)), (20, 4, (.t 6)), (24, 4, (.t 7)), (28, 4, (.t 8)), (32, 4, (.t 9)), (36, 4, (.t 10)), (40, 4, (.t 11)), (44, 4, (.t 12)), (48, 4, (.t 13)), (52, 4, (.t 14)), (56, 4, (.t 15))], none, []⟩,
⟨none, .store 60 (.t 0) (.t 16), none, []⟩]
def f73 : IFn := ⟨0, 17, [.cell 0 60 true], (.seq (.region f73.r0) (.seq (.region f73.r1) .ret))⟩
def f76.r0 : List IOper := [
⟨some 2, .box 2 (.t 0), none, []⟩,
⟨some 3, .box 2 (.t 1), none, []⟩,
⟨some 4, .mv (.c (.d (.int .i64 0))), none, []⟩]
def f76.r1 : List IOper := [
⟨some 5, .mv (.c (.d (.int .i64 0))), none, []⟩]
def f76.r2 : List IOper := [
⟨some 8, .mv (.t 5), none, []⟩,
⟨some 9, .faddr 1 1 (.t 2), none, []⟩,
⟨some 10, .load 1 false (.t 9), none, []⟩,
⟨some 11, .len .slice (.t 10), none, []⟩,
⟨some 12, .bin .lss (.t 8) (.t 11), none, []⟩,
⟨some 13, .mv (.t 12), none, []⟩,
⟨some 14, .mv (.t 5), some (13, true), []⟩,
⟨some 15, .faddr 1 1 (.t 3), some (13, true), []⟩,
⟨some 16, .load 1 false (.t 15), some (13, true), []⟩,
⟨some 17, .len .slice (.t 16), some (13, true), []⟩,
⟨some 18, .bin .lss (.t 14) (.t 17), some (13, true), []⟩,
⟨some 19, .pick (.t 13) (.t 18) (.c (.d (.bool false))), none, []⟩]
def f76.r3 : List IOper := [
⟨some 22, .faddr 1 1 (.t 2), none, []⟩,
⟨some 23, .load 1 false (.t 22), none, [0]⟩,
⟨some 24, .mv (.t 5), none, []⟩,
⟨some 25, .iaddr 2 (.t 23) (.t 24), none, [1, 2]⟩,
⟨some 26, .load 2 true (.t 25), none, [3]⟩,
⟨some 27, .faddr 1 1 (.t 3), none, []⟩,
⟨some 28, .load 1 false (.t 27), none, [5]⟩,
⟨some 29, .mv (.t 5), none, []⟩,
⟨some 30, .iaddr 2 (.t 28) (.t 29), none, [6, 7]⟩,
⟨some 31, .load 2 true (.t 30), none, [8]⟩,
⟨some 6, .alloc [.d (.str []), .d (.int .i64 0)], none, []⟩,
⟨some 7, .alloc [.d (.str []), .d (.int .i64 0)], none, []⟩,
⟨none, .store 2 (.t 6) (.t 26), none, [10, 4, 0, 1, 2, 3, 4, 10, 11]⟩,
⟨none, .store 2 (.t 7) (.t 31), none, [11, 9, 12, 0, 1, 2, 3, 4, 5, 6, 7, 8, 9, 10, 11, 12]⟩]
def f76.r4 : List IOper := [
⟨some 33, .faddr 0 1 (.t 6), none, []⟩,
⟨some 34, .load 1 false (.t 33), none, []⟩,
⟨some 35, .faddr 0 1 (.t 7), none, []⟩,
⟨some 36, .load 1 false (.t 35), none, []⟩,
⟨some 37, .bin .lss (.t 34) (.t 36), none, []⟩,
⟨some 38, .mv (.t 37), none, []⟩,
⟨some 39, .faddr 0 1 (.t 6), some (38, false), []⟩,
⟨some 40, .load 1 false (.t 39), some (38, false), []⟩,
⟨some 41, .faddr 0 1 (.t 7), some (38, false), []⟩,
⟨some 42, .load 1 false (.t 41), some (38, false), []⟩,
⟨some 43, .bin .eql (.t 40) (.t 42), some (38, false), []⟩,
⟨some 44, .mv (.t 43), some (38, false), []⟩,
⟨some 45, .faddr 1 1 (.t 6), some (44, true), []⟩,
⟨some 46, .load 1 false (.t 45), some (44, true), []⟩,
⟨some 47, .faddr 1 1 (.t 7), some (44, true), []⟩,
⟨some 48, .load 1 false (.t 47), some (44, true), []⟩,
⟨some 49, .bin .lss (.t 46) (.t 48), some (44, true), []⟩,
⟨some 50, .pick (.t 44) (.t 49) (.c (.d (.bool false))), some (38, false), []⟩,
⟨some 51, .pick (.t 38) (.c (.d (.bool true))) (.t 50), none, []⟩,
⟨some 32, .mv (.t 51), none, []⟩]
def f76.r5 : List IOper := [
⟨some 4, .mv (.c (.d (.int .i64 (-1)))), none, []⟩]
def f76.r6 : List IOper := [
⟨some 53, .load 2 true (.t 6), none, []⟩,
⟨some 54, .load 2 true (.t 7), none, []⟩,
⟨some 55, .eqS true [.str, .int] (.t 53) (.t 54), none, []⟩,
⟨some 52, .mv (.t 55), none, []⟩]
def f76.r7 : List IOper := [
⟨some 4, .mv (.c (.d (.int .i64 1))), none, []⟩]
def f76.r8 : List IOper := [
⟨some 20, .mv (.t 5), none, []⟩,
⟨some 21, .bin .add (.t 20) (.c (.d (.int .i64 1))), none, []⟩,
⟨some 5, .mv (.t 21), none, []⟩]
def f76.l9 : IR := (.seq (.seq (.region f76.r2) (.cond (.t 19) .skip (.exit 0))) (.seq (.block 1 (.seq (.draw f76.r3) (.block 2 (.seq (.region f76.r4) (.cond (.t 32) (.seq (.region f76.r5) .ret) (.seq (.region f76.r6) (.cond (.t 52) (.seq (.region f76.r7) .ret) .skip))))))) (.region f76.r8)))
def f76.r10 : List IOper := [
⟨some 57, .faddr 1 1 (.t 2), none, []⟩,
⟨some 58, .load 1 false (.t 57), none, []⟩,
⟨some 59, .len .slice (.t 58), none, []⟩,
⟨some 60, .faddr 1 1 (.t 3), none, []⟩,
⟨some 61, .load 1 false (.t 60), none, []⟩,
⟨some 62, .len .slice (.t 61), none, []⟩,
⟨some 63, .bin .lss (.t 59) (.t 62), none, []⟩,
⟨some 64, .mv (.t 63), none, []⟩,
⟨some 65, .faddr 1 1 (.t 2), some (64, false), []⟩,
⟨some 66, .load 1 false (.t 65), some (64, false), []⟩,
⟨some 67, .len .slice (.t 66), some (64, false), []⟩,
⟨some 68, .faddr 1 1 (.t 3), some (64, false), []⟩,
⟨some 69, .load 1 false (.t 68), some (64, false), []⟩,
⟨some 70, .len .slice (.t 69), some (64, false), []⟩,
⟨some 71, .bin .eql (.t 67) (.t 70), some (64, false), []⟩,
⟨some 72, .mv (.t 71), some (64, false), []⟩,
⟨some 73, .faddr 0 1 (.t 2), some (72, true), []⟩,
⟨some 74, .load 1 false (.t 73), some (72, true), []⟩,
⟨some 75, .faddr 0 1 (.t 3), some (72, true), []⟩,
⟨some 76, .load 1 false (.t 75), some (72, true), []⟩,
⟨some 77, .bin .lss (.t 74) (.t 76), some (72, true), []⟩,
⟨some 78, .pick (.t 72) (.t 77) (.c (.d (.bool false))), some (64, false), []⟩,
⟨some 79, .pick (.t 64) (.c (.d (.bool true))) (.t 78), none, []⟩,
⟨some 56, .mv (.t 79), none, []⟩]
def f76.r11 : List IOper := [
⟨some 4, .mv (.c (.d (.int .i64 (-1)))), none, []⟩]
def f76.r12 : List IOper := [
⟨some 81, .faddr 1 1 (.t 2), none, []⟩,
⟨some 82, .load 1 false (.t 81), none, []⟩,
⟨some 83, .len .slice (.t 82), none, []⟩,
⟨some 84, .faddr 1 1 (.t 3), none, []⟩,
⟨some 85, .load 1 false (.t 84), none, []⟩,
⟨some 86, .len .slice (.t 85), none, []⟩,
⟨some 87, .bin .gtr (.t 83) (.t 86), none, []⟩,
⟨some 88, .mv (.t 87), none, []⟩,
⟨some 89, .faddr 0 1 (.t 2), some (88, false), []⟩,
⟨some 90, .load 1 false (.t 89), some (88, false), []⟩,
⟨some 91, .faddr 0 1 (.t 3), some (88, false), []⟩,
⟨some 92, .load 1 false (.t 91), some (88, false), []⟩,
⟨some 93, .bin .gtr (.t 90) (.t 92), some (88, false), []⟩,
⟨some 94, .pick (.t 88) (.c (.d (.bool true))) (.t 93), none, []⟩,
⟨some 80, .mv (.t 94), none, []⟩]
def f76.r13 : List IOper := [
⟨some 4, .mv (.c (.d (.int .i64 1))), none, []⟩]
def f76.r14 : List IOper := [
⟨some 4, .mv (.c (.d (.int .i64 0))), none, []⟩]
def f76 : IFn := ⟨2, 95, [.t 4], (.seq (.region f76.r0) (.seq (.seq (.region f76.r1) (.block 0 (.loop f76.l9))) (.seq (.block 3 (.seq (.region f76.r10) (.cond (.t 56) (.seq (.region f76.r11) .ret) (.seq (.region f76.r12) (.cond (.t 80) (.seq (.region f76.r13) .ret) .skip))))) (.seq (.region f76.r14) .ret))))⟩
def f77.r0 : List IOper := [
⟨some 2, .mv (.c (.d (.bool false))), none, []⟩]
def f77.r1 : List IOper := [
⟨some 7, .mv (.t 0), none, []⟩,
⟨some 8, .call 122 [(.t 7), (.c (.d (.str [95])))], none, []⟩]
def f77.r2 : List IOper := [
⟨some 10, .mv (.t 0), none, []⟩,
⟨some 11, .sslice (.t 10) (some (.c (.d (.int .i64 1)))) none, none, []⟩,
⟨some 12, .call 123 [(.t 11)], none, []⟩,
⟨some 9, .mv (.t 12), none, []⟩,
⟨some 13, .ext (.t 9) 0, none, []⟩,
⟨some 14, .ext (.t 9) 1, none, []⟩,
⟨some 3, .mv (.t 13), none, []⟩,
⟨some 4, .mv (.t 14), none, []⟩]
def f77.r3 : List IOper := [
⟨some 15, .mv (.t 4), none, []⟩,
⟨some 16, .eq false .iface (.t 15) (.c (.nili)), none, [0]⟩,
⟨some 17, .mv (.t 16), none, [1]⟩,
⟨some 18, .mv (.t 3), some (17, true), [2]⟩,
⟨some 19, .bin .gtr (.t 18) (.c (.d (.int .i64 0))), some (17, true), [3, 2]⟩,
⟨some 20, .pick (.t 17) (.t 19) (.c (.d (.bool false))), none, [2, 4]⟩,
⟨some 21, .mv (.t 20), none, [5, 2]⟩,
⟨some 22, .mv (.t 0), some (21, true), [6]⟩,
⟨some 23, .len .str (.t 22), some (21, true), [7, 6]⟩,
⟨some 24, .bin .leq (.t 23) (.c (.d (.int .i64 10))), some (21, true), [8, 6]⟩,
⟨some 25, .pick (.t 21) (.t 24) (.c (.d (.bool false))), none, [6, 9]⟩,
⟨some 26, .mv (.t 25), none, [10, 6]⟩,
⟨some 27, .mv (.t 3), some (26, true), [11]⟩,
⟨some 28, .call 64 [(.t 27)], some (26, true), [12, 11, 11]⟩,
⟨some 29, .mv (.t 0), some (26, true), [11]⟩,
⟨some 30, .sslice (.t 29) (some (.c (.d (.int .i64 1)))) none, some (26, true), [14, 11]⟩,
⟨some 31, .bin .eql (.t 28) (.t 30), some (26, true), [13, 15, 11]⟩,
⟨some 32, .pick (.t 26) (.t 31) (.c (.d (.bool false))), none, [11, 16]⟩,
⟨some 2, .mv (.t 32), none, [17, 13, 0, 1, 2, 3, 4, 5, 6, 7, 8, 9, 10, 11, 12, 13, 14, 15, 16, 17]⟩]
def f77.r4 : List IOper := [
⟨some 33, .mv (.t 0), none, []⟩,
⟨some 34, .strToBytes (.t 33), none, []⟩,
⟨some 35, .len .slice (.t 34), none, []⟩,
⟨some 36, .mv (.c (.d (.int .i64 0))), none, []⟩]
def f77.r5 : List IOper := [
⟨some 37, .bin .lss (.t 36) (.t 35), none, []⟩]
def f77.r6 : List IOper := [
⟨some 38, .mv (.t 36), none, []⟩,
⟨some 39, .iaddr 1 (.t 34) (.t 36), none, []⟩,
⟨some 40, .load 1 false (.t 39), none, []⟩,
⟨some 5, .mv (.t 38), none, []⟩,
⟨some 6, .mv (.t 40), none, []⟩]
def f77.r7 : List IOper := [
⟨some 41, .mv (.t 6), none, []⟩,
⟨some 42, .bin .lss (.t 41) (.c (.d (.int .u8 97))), none, []⟩,
⟨some 43, .mv (.t 42), none, []⟩,
⟨some 44, .mv (.t 6), some (43, false), []⟩,
⟨some 45, .bin .gtr (.t 44) (.c (.d (.int .u8 122))), some (43, false), []⟩,
⟨some 46, .pick (.t 43) (.c (.d (.bool true))) (.t 45), none, []⟩,
⟨some 47, .mv (.t 46), none, []⟩,
⟨some 48, .mv (.t 5), some (47, true), []⟩,
⟨some 49, .bin .eql (.t 48) (.c (.d (.int .i64 0))), some (47, true), []⟩,
⟨some 50, .mv (.t 49), some (47, true), []⟩,
⟨some 51, .mv (.t 6), some (50, false), []⟩,
⟨some 52, .bin .lss (.t 51) (.c (.d (.int .u8 48))), some (50, false), []⟩,
⟨some 53, .pick (.t 50) (.c (.d (.bool true))) (.t 52), some (47, true), []⟩,
⟨some 54, .mv (.t 53), some (47, true), []⟩,
⟨some 55, .mv (.t 6), some (54, false), []⟩,
⟨some 56, .bin .gtr (.t 55) (.c (.d (.int .u8 57))), some (54, false), []⟩,
⟨some 57, .pick (.t 54) (.c (.d (.bool true))) (.t 56), some (47, true), []⟩,
⟨some 58, .pick (.t 47) (.t 57) (.c (.d (.bool false))), none, []⟩]
def f77.r8 : List IOper := [
⟨some 2, .mv (.c (.d (.bool false))), none, []⟩]
def f77.r9 : List IOper := [
⟨some 59, .bin .add (.t 36) (.c (.d (.int .i64 1))), none, []⟩,
⟨some 36, .mv (.t 59), none, []⟩]
def f77.l10 : IR := (.seq (.region f77.r5) (.seq (.cond (.t 37) .skip (.exit 0)) (.seq (.block 1 (.seq (.region f77.r6) (.seq (.region f77.r7) (.cond (.t 58) (.seq (.region f77.r8) .ret) .skip)))) (.region f77.r9))))
def f77.r11 : List IOper := [
⟨some 60, .mv (.t 0), none, []⟩,
⟨some 61, .bin .neq (.t 60) (.c (.d (.str []))), none, []⟩,
⟨some 62, .mv (.t 61), none, []⟩,
⟨some 63, .mv (.t 0), some (62, true), []⟩,
⟨some 64, .len .str (.t 63), some (62, true), []⟩,
⟨some 65, .bin .leq (.t 64) (.c (.d (.int .i64 30))), some (62, true), []⟩,
⟨some 66, .pick (.t 62) (.t 65) (.c (.d (.bool false))), none, []⟩,
⟨some 2, .mv (.t 66), none, []⟩]
def f77 : IFn := ⟨1, 67, [.t 2], (.seq (.region f77.r0) (.seq (.seq (.region f77.r1) (.cond (.t 8) (.seq (.region f77.r2) (.seq (.draw f77.r3) .ret)) .skip)) (.seq (.seq (.region f77.r4) (.block 0 (.loop f77.l10))) (.seq (.region f77.r11) .ret))))⟩
def f78.r0 : List IOper := [
⟨some 2, .mv (.c (.d (.bool false))), none, []⟩]
def f78.r1 : List IOper := [
⟨some 3, .mv (.t 0), none, []⟩,
⟨some 4, .bin .geq (.t 3) (.c (.d (.int .i64 (-1000000)))), none, []⟩,
⟨some 5, .mv (.t 4), none, []⟩,
⟨some 6, .mv (.t 0), some (5, true), []⟩,
⟨some 7, .bin .leq (.t 6) (.c (.d (.int .i64 1000000))), some (5, true), []⟩,
⟨some 8, .pick (.t 5) (.t 7) (.c (.d (.bool false))), none, []⟩,
⟨some 2, .mv (.t 8), none, []⟩]
def f78 : IFn := ⟨1, 9, [.t 2], (.seq (.region f78.r0) (.seq (.region f78.r1) .ret))⟩
def f79.r0 : List IOper := [
⟨some 1, .box 5 (.t 0), none, []⟩,
⟨some 2, .mv (.c (.d (.bool false))), none, []⟩]
def f79.r1 : List IOper := [
⟨some 3, .mv (.f 124), none, []⟩]
def f79.r2 : List IOper := [
⟨some 4, .faddr 0 1 (.t 1), none, []⟩,
⟨some 5, .load 1 false (.t 4), none, []⟩,
⟨some 6, .len .slice (.t 5), none, []⟩,
⟨some 7, .bin .leq (.t 6) (.c (.d (.int .i64 12))), none, []⟩,
⟨some 8, .mv (.t 7), none, []⟩,
⟨some 9, .faddr 4 1 (.t 1), some (8, true), []⟩,
⟨some 10, .load 1 false (.t 9), some (8, true), []⟩,
⟨some 11, .len .slice (.t 10), some (8, true), []⟩,
⟨some 12, .bin .leq (.t 11) (.c (.d (.int .i64 60))), some (8, true), []⟩,
⟨some 13, .pick (.t 8) (.t 12) (.c (.d (.bool false))), none, []⟩,
⟨some 14, .mv (.t 13), none, []⟩,
⟨some 15, .faddr 0 1 (.t 1), some (14, true), []⟩,
⟨some 16, .load 1 false (.t 15), some (14, true), []⟩,
⟨some 17, .mv (.t 3), some (14, true), []⟩,
⟨some 18, .call 126 [(.t 16), (.t 17)], some (14, true), []⟩,
⟨some 19, .un .not (.t 18), some (14, true), []⟩,
⟨some 20, .pick (.t 14) (.t 19) (.c (.d (.bool false))), none, []⟩,
⟨some 21, .mv (.t 20), none, []⟩,
⟨some 22, .faddr 1 3 (.t 1), some (21, true), []⟩,
⟨some 23, .load 3 true (.t 22), some (21, true), []⟩,
⟨some 24, .call 125 [(.t 23)], some (21, true), []⟩,
⟨some 25, .pick (.t 21) (.t 24) (.c (.d (.bool false))), none, []⟩,
⟨some 26, .mv (.t 25), none, []⟩,
⟨some 27, .faddr 4 1 (.t 1), some (26, true), []⟩,
⟨some 28, .load 1 false (.t 27), some (26, true), []⟩,
⟨some 29, .call 127 [(.t 28), (.f 128)], some (26, true), []⟩,
⟨some 30, .un .not (.t 29), some (26, true), []⟩,
⟨some 31, .pick (.t 26) (.t 30) (.c (.d (.bool false))), none, []⟩,
⟨some 2, .mv (.t 31), none, []⟩]
def f79 : IFn := ⟨1, 32, [.t 2], (.seq (.region f79.r0) (.seq (.region f79.r1) (.seq (.region f79.r2) .ret)))⟩
def f80.r0 : List IOper := [
⟨some 2, .mv (.c (.nils)), none, []⟩]
def f80.r1 : List IOper := [
⟨some 3, .mv (.c (.d (.int .i64 0))), none, []⟩]
def f80.r2 : List IOper := [
⟨some 9, .mv (.t 0), none, []⟩,
⟨some 10, .len .slice (.t 9), none, []⟩,
⟨some 11, .mv (.c (.d (.int .i64 0))), none, []⟩]
def f80.r3 : List IOper := [
⟨some 12, .bin .lss (.t 11) (.t 10), none, []⟩]
def f80.r4 : List IOper := [
⟨some 13, .iaddr 1 (.t 9) (.t 11), none, []⟩,
⟨some 14, .load 1 false (.t 13), none, []⟩,
⟨some 5, .mv (.t 14), none, []⟩]
def f80.r5 : List IOper := [
⟨some 15, .mv (.t 3), none, []⟩,
⟨some 16, .mv (.t 5), none, []⟩,
⟨some 17, .len .slice (.t 16), none, []⟩,
⟨some 18, .bin .add (.t 15) (.t 17), none, []⟩,
⟨some 3, .mv (.t 18), none, []⟩]
def f80.r6 : List IOper := [
⟨some 19, .mv (.t 3), none, []⟩,
⟨some 20, .bin .lss (.t 19) (.c (.d (.int .i64 0))), none, []⟩]
def f80.r7 : List IOper := [
⟨some 21, .mkiface 9 (.c (.d (.str [108, 101, 110, 32, 111, 117, 116, 32, 111, 102, 32, 114, 97, 110, 103, 101]))), none, []⟩,
⟨none, .bad, none, []⟩]
def f80.r8 : List IOper := [
⟨some 22, .bin .add (.t 11) (.c (.d (.int .i64 1))), none, []⟩,
⟨some 11, .mv (.t 22), none, []⟩]
def f80.l9 : IR := (.seq (.region f80.r3) (.seq (.cond (.t 12) .skip (.exit 0)) (.seq (.block 1 (.seq (.region f80.r4) (.seq (.region f80.r5) (.seq (.region f80.r6) (.cond (.t 20) (.region f80.r7) .skip))))) (.region f80.r8))))
def f80.r10 : List IOper := [
⟨some 23, .mv (.t 3), none, []⟩,
⟨some 24, .call 129 [(.c (.nils)), (.t 23)], none, []⟩,
⟨some 6, .mv (.t 24), none, []⟩]
def f80.r11 : List IOper := [
⟨some 25, .mv (.t 0), none, []⟩,
⟨some 26, .len .slice (.t 25), none, []⟩,
⟨some 27, .mv (.c (.d (.int .i64 0))), none, []⟩]
def f80.r12 : List IOper := [
⟨some 28, .bin .lss (.t 27) (.t 26), none, []⟩]
def f80.r13 : List IOper := [
⟨some 29, .iaddr 1 (.t 25) (.t 27), none, []⟩,
⟨some 30, .load 1 false (.t 29), none, []⟩,
⟨some 8, .mv (.t 30), none, []⟩]
def f80.r14 : List IOper := [
⟨some 31, .mv (.t 6), none, []⟩,
⟨some 32, .mv (.t 8), none, []⟩,
⟨some 33, .append 3 56 (.t 31) (.t 32), none, []⟩,
⟨some 6, .mv (.t 33), none, []⟩]
def f80.r15 : List IOper := [
⟨some 34, .bin .add (.t 27) (.c (.d (.int .i64 1))), none, []⟩,
⟨some 27, .mv (.t 34), none, []⟩]
def f80.l16 : IR := (.seq (.region f80.r12) (.seq (.cond (.t 28) .skip (.exit 2)) (.seq (.block 3 (.seq (.region f80.r13) (.region f80.r14))) (.region f80.r15))))
def f80.r17 : List IOper := [
⟨some 35, .mv (.t 6), none, []⟩,
⟨some 2, .mv (.t 35), none, []⟩]
def f80 : IFn := ⟨1, 36, [.t 2], (.seq (.region f80.r0) (.seq (.region f80.r1) (.seq (.seq (.region f80.r2) (.block 0 (.loop f80.l9))) (.seq (.region f80.r10) (.seq (.seq (.region f80.r11) (.block 2 (.loop f80.l16))) (.seq (.region f80.r17) .ret))))))⟩
def f81.r0 : List IOper := [
⟨some 4, .mv (.c (.nils)), none, []⟩]
def f81.r1 : List IOper := [
⟨some 7, .mv (.t 1), none, []⟩,
⟨some 8, .len .slice (.t 7), none, []⟩,
⟨some 9, .mv (.c (.d (.int .i64 0))), none, []⟩]
def f81.r2 : List IOper := [
⟨some 10, .bin .lss (.t 9) (.t 8), none, []⟩]
def f81.r3 : List IOper := [
⟨some 11, .iaddr 7 (.t 7) (.t 9), none, []⟩,
⟨some 12, .load 7 true (.t 11), none, []⟩,
⟨some 6, .alloc [.d (.int .i64 0), .d (.str []), .d (.int .i64 0), .nils, .d (.str []), .nils, .d (.str [])], none, []⟩,
⟨none, .store 7 (.t 6) (.t 12), none, []⟩]
def f81.r4 : List IOper := [
⟨some 13, .mv (.t 0), none, []⟩,
⟨some 14, .faddr 0 1 (.t 6), none, []⟩,
⟨some 15, .load 1 false (.t 14), none, []⟩,
⟨some 16, .faddr 1 1 (.t 6), none, []⟩,
⟨some 17, .load 1 false (.t 16), none, []⟩,
⟨some 18, .call 130 [(.t 13), (.t 15), (.t 17)], none, []⟩,
⟨some 19, .bin .lss (.t 18) (.c (.d (.int .i64 0))), none, []⟩]
def f81.r5 : List IOper := [
⟨some 20, .mv (.t 0), none, []⟩,
⟨some 21, .load 7 true (.t 6), none, []⟩,
⟨some 22, .mkSlice 7 1 [.d (.int .i64 0), .d (.str []), .d (.int .i64 0), .nils, .d (.str []), .nils, .d (.str [])] [(0, 7, (.t 21))], none, []⟩,
⟨some 23, .append 7 112 (.t 20) (.t 22), none, []⟩,
⟨some 0, .mv (.t 23), none, []⟩]
def f81.r6 : List IOper := [
⟨some 24, .bin .add (.t 9) (.c (.d (.int .i64 1))), none, []⟩,
⟨some 9, .mv (.t 24), none, []⟩]
def f81.l7 : IR := (.seq (.region f81.r2) (.seq (.cond (.t 10) .skip (.exit 0)) (.seq (.block 1 (.seq (.region f81.r3) (.seq (.region f81.r4) (.cond (.t 19) (.region f81.r5) .skip)))) (.region f81.r6))))
def f81.r8 : List IOper := [
⟨some 25, .mv (.t 0), none, []⟩,
⟨some 4, .mv (.t 25), none, []⟩]
def f81 : IFn := ⟨2, 26, [.t 4], (.seq (.region f81.r0) (.seq (.seq (.region f81.r1) (.block 0 (.loop f81.l7))) (.seq (.region f81.r8) .ret)))⟩
def f82.r0 : List IOper := [
⟨some 1, .box 3 (.t 0), none, []⟩,
⟨some 2, .mv (.c (.nils)), none, []⟩]
def f82.r1 : List IOper := [
⟨some 4, .load 3 true (.t 1), none, []⟩,
⟨some 5, .call 125 [(.t 4)], none, []⟩,
⟨some 6, .un .not (.t 5), none, []⟩]
def f82.r2 : List IOper := [
⟨some 2, .mv (.c (.nils)), none, []⟩]
def f82.r3 : List IOper := [
⟨some 7, .faddr 1 2 (.t 1), none, []⟩,
⟨some 8, .load 2 true (.t 7), none, []⟩,
⟨some 9, .call 131 [(.t 8)], none, []⟩,
⟨some 3, .mv (.t 9), none, []⟩]
def f82.r4 : List IOper := [
⟨some 10, .faddr 0 1 (.t 1), none, []⟩,
⟨some 11, .load 1 false (.t 10), none, []⟩,
⟨some 12, .call 132 [(.t 11)], none, []⟩]
def f82.r5 : List IOper := [
⟨some 13, .mv (.t 3), none, []⟩,
⟨some 14, .faddr 0 1 (.t 1), none, []⟩,
⟨some 15, .load 1 false (.t 14), none, []⟩,
⟨some 16, .build [.d (.int .i64 0), .d (.str []), .d (.int .i64 0), .nils, .d (.str []), .nils, .d (.str [])] [(0, 1, (.c (.d (.int .i64 3)))), (1, 1, (.t 15))], none, []⟩,
⟨some 17, .mkSlice 7 1 [.d (.int .i64 0), .d (.str []), .d (.int .i64 0), .nils, .d (.str []), .nils, .d (.str [])] [(0, 7, (.t 16))], none, []⟩,
⟨some 18, .append 7 112 (.t 13) (.t 17), none, []⟩,
⟨some 3, .mv (.t 18), none, []⟩]
def f82.r6 : List IOper := [
⟨some 19, .mv (.t 3), none, []⟩,
⟨some 2, .mv (.t 19), none, []⟩]
def f82 : IFn := ⟨1, 20, [.t 2], (.seq (.region f82.r0) (.seq (.seq (.region f82.r1) (.cond (.t 6) (.seq (.region f82.r2) .ret) .skip)) (.seq (.region f82.r3) (.seq (.seq (.region f82.r4) (.cond (.t 12) (.region f82.r5) .skip)) (.seq (.region f82.r6) .ret)))))⟩
def f83.r0 : List IOper := [
⟨some 1, .box 2 (.t 0), none, []⟩,
⟨some 2, .mv (.c (.nils)), none, []⟩]
def f83.r1 : List IOper := [
⟨some 3, .mv (.c (.nils)), none, []⟩]
def f83.r2 : List IOper := [
⟨some 6, .faddr 1 1 (.t 1), none, []⟩,
⟨some 7, .load 1 false (.t 6), none, []⟩,
⟨some 8, .len .slice (.t 7), none, []⟩,
⟨some 9, .mv (.c (.d (.int .i64 0))), none, []⟩]
def f83.r3 : List IOper := [
⟨some 10, .bin .lss (.t 9) (.t 8), none, []⟩]
def f83.r4 : List IOper := [
⟨some 11, .iaddr 2 (.t 7) (.t 9), none, []⟩,
⟨some 12, .load 2 true (.t 11), none, []⟩,
⟨some 5, .alloc [.d (.str []), .d (.int .i64 0)], none, []⟩,
⟨none, .store 2 (.t 5) (.t 12), none, []⟩]
def f83.r5 : List IOper := [
⟨some 13, .mv (.t 3), none, []⟩,
⟨some 14, .faddr 0 1 (.t 5), none, []⟩,
⟨some 15, .load 1 false (.t 14), none, []⟩,
⟨some 16, .mkSlice 1 1 [.d (.str [])] [(0, 1, (.t 15))], none, []⟩,
⟨some 17, .append 1 16 (.t 13) (.t 16), none, []⟩,
⟨some 3, .mv (.t 17), none, []⟩]
def f83.r6 : List IOper := [
⟨some 18, .bin .add (.t 9) (.c (.d (.int .i64 1))), none, []⟩,
⟨some 9, .mv (.t 18), none, []⟩]
def f83.l7 : IR := (.seq (.region f83.r3) (.seq (.cond (.t 10) .skip (.exit 0)) (.seq (.block 1 (.seq (.region f83.r4) (.region f83.r5))) (.region f83.r6))))
def f83.r8 : List IOper := [
⟨some 19, .mv (.t 3), none, []⟩,
⟨some 2, .mv (.t 19), none, []⟩]
def f83 : IFn := ⟨1, 20, [.t 2], (.seq (.region f83.r0) (.seq (.region f83.r1) (.seq (.seq (.region f83.r2) (.block 0 (.loop f83.l7))) (.seq (.region f83.r8) .ret))))⟩
def f84.r0 : List IOper := [
⟨some 4, .mv (.c (.d (.int .i64 0))), none, []⟩]
def f84.r1 : List IOper := [
⟨some 6, .mv (.t 0), none, []⟩,
⟨some 7, .len .slice (.t 6), none, []⟩,
⟨some 8, .mv (.c (.d (.int .i64 0))), none, []⟩]
def f84.r2 : List IOper := [
⟨some 9, .bin .lss (.t 8) (.t 7), none, []⟩]
def f84.r3 : List IOper := [
⟨some 10, .mv (.t 8), none, []⟩,
⟨some 5, .mv (.t 10), none, []⟩]
def f84.r4 : List IOper := [
⟨some 11, .mv (.t 1), none, []⟩,
⟨some 12, .mv (.t 0), none, []⟩,
⟨some 13, .mv (.t 5), none, []⟩,
⟨some 14, .iaddr 7 (.t 12) (.t 13), none, []⟩,
⟨some 15, .load 7 true (.t 14), none, []⟩,
⟨some 16, .callv (.t 11) [(.t 15)], none, []⟩]
def f84.r5 : List IOper := [
⟨some 17, .mv (.t 5), none, []⟩,
⟨some 4, .mv (.t 17), none, []⟩]
def f84.r6 : List IOper := [
⟨some 18, .bin .add (.t 8) (.c (.d (.int .i64 1))), none, []⟩,
⟨some 8, .mv (.t 18), none, []⟩]
def f84.l7 : IR := (.seq (.region f84.r2) (.seq (.cond (.t 9) .skip (.exit 0)) (.seq (.block 1 (.seq (.region f84.r3) (.seq (.region f84.r4) (.cond (.t 16) (.seq (.region f84.r5) .ret) .skip)))) (.region f84.r6))))
def f84.r8 : List IOper := [
⟨some 4, .mv (.c (.d (.int .i64 (-1)))), none, []⟩]
def f84 : IFn := ⟨2, 19, [.t 4], (.seq (.region f84.r0) (.seq (.seq (.region f84.r1) (.block 0 (.loop f84.l7))) (.seq (.region f84.r8) .ret)))⟩
def f85.r0 : List IOper := [
⟨some 2, .mv (.c (.d (.bool false))), none, []⟩]
def f85.r1 : List IOper := [
⟨some 5, .mv (.t 0), none, []⟩,
⟨some 6, .len .slice (.t 5), none, []⟩,
⟨some 7, .mv (.c (.d (.int .i64 0))), none, []⟩]
def f85.r2 : List IOper := [
⟨some 8, .bin .lss (.t 7) (.t 6), none, []⟩]
def f85.r3 : List IOper := [
⟨some 9, .mv (.t 7), none, []⟩,
⟨some 10, .iaddr 7 (.t 5) (.t 7), none, []⟩,
⟨some 11, .load 7 true (.t 10), none, []⟩,
⟨some 4, .alloc [.d (.int .i64 0), .d (.str []), .d (.int .i64 0), .nils, .d (.str []), .nils, .d (.str [])], none, []⟩,
⟨some 3, .mv (.t 9), none, []⟩,
⟨none, .store 7 (.t 4) (.t 11), none, []⟩]
def f85.r4 : List IOper := [
⟨some 12, .load 7 true (.t 4), none, []⟩,
⟨some 13, .call 133 [(.t 12)], none, [0]⟩,
⟨some 14, .un .not (.t 13), none, [1]⟩,
⟨some 15, .mv (.t 14), none, [2, 1]⟩,
⟨some 16, .mv (.t 0), some (15, false), [3]⟩,
⟨some 17, .mv (.t 3), some (15, false), [3]⟩,
⟨some 18, .lslice 7 (.t 16) none (some (.t 17)), some (15, false), [4, 5, 3]⟩,
⟨some 19, .faddr 0 1 (.t 4), some (15, false), [3]⟩,
⟨some 20, .load 1 false (.t 19), some (15, false), [7, 3]⟩,
⟨some 21, .faddr 1 1 (.t 4), some (15, false), [3]⟩,
⟨some 22, .load 1 false (.t 21), some (15, false), [9, 3]⟩,
⟨some 23, .call 134 [(.t 18), (.t 20), (.t 22)], some (15, false), [6, 8, 10, 3, 3]⟩,
⟨some 24, .bin .geq (.t 23) (.c (.d (.int .i64 0))), some (15, false), [11, 3]⟩,
⟨some 25, .pick (.t 15) (.c (.d (.bool true))) (.t 24), none, [3, 12]⟩]
def f85.r5 : List IOper := [
⟨some 2, .mv (.c (.d (.bool false))), none, []⟩]
def f85.r6 : List IOper := [
⟨some 26, .bin .add (.t 7) (.c (.d (.int .i64 1))), none, []⟩,
⟨some 7, .mv (.t 26), none, []⟩]
def f85.l7 : IR := (.seq (.region f85.r2) (.seq (.cond (.t 8) .skip (.exit 0)) (.seq (.block 1 (.seq (.region f85.r3) (.seq (.draw f85.r4) (.cond (.t 25) (.seq (.region f85.r5) .ret) .skip)))) (.region f85.r6))))
def f85.r8 : List IOper := [
⟨some 2, .mv (.c (.d (.bool true))), none, []⟩]
def f85 : IFn := ⟨1, 27, [.t 2], (.seq (.region f85.r0) (.seq (.seq (.region f85.r1) (.block 0 (.loop f85.l7))) (.seq (.region f85.r8) .ret)))⟩
def f86.r0 : List IOper := [
⟨some 2, .box 3 (.t 0), none, []⟩,
⟨some 4, .alloc [.d (.str []), .d (.str []), .nils], none, []⟩,
⟨some 5, .mv (.c (.d (.int .i64 0))), none, []⟩]
def f86.r1 : List IOper := [
⟨some 9, .load 3 true (.t 2), none, []⟩,
⟨some 10, .call 125 [(.t 9)], none, []⟩,
⟨some 11, .un .not (.t 10), none, []⟩,
⟨some 12, .mv (.t 11), none, []⟩,
⟨some 13, .mv (.t 1), some (12, false), []⟩,
⟨some 14, .call 85 [(.t 13)], some (12, false), []⟩,
⟨some 15, .un .not (.t 14), some (12, false), []⟩,
⟨some 16, .pick (.t 12) (.c (.d (.bool true))) (.t 15), none, []⟩]
def f86.r2 : List IOper := [
⟨some 17, .build [.d (.str []), .d (.str []), .nils] [], none, []⟩,
⟨none, .store 3 (.t 4) (.t 17), none, []⟩,
⟨some 5, .mv (.c (.d (.int .i64 1))), none, []⟩]
def f86.r3 : List IOper := [
⟨some 19, .faddr 1 2 (.t 2), none, []⟩,
⟨some 20, .load 2 true (.t 19), none, []⟩,
⟨some 21, .mv (.t 1), none, []⟩,
⟨some 22, .call 135 [(.t 20), (.t 21)], none, []⟩,
⟨some 18, .mv (.t 22), none, []⟩,
⟨some 23, .ext (.t 18) 0, none, []⟩,
⟨some 24, .ext (.t 18) 1, none, []⟩,
⟨some 6, .alloc [.d (.str []), .nils], none, []⟩,
⟨none, .store 2 (.t 6) (.t 23), none, []⟩,
⟨some 7, .mv (.t 24), none, []⟩]
def f86.r4 : List IOper := [
⟨some 25, .mv (.t 7), none, []⟩,
⟨some 26, .bin .neq (.t 25) (.c (.d (.int .i64 0))), none, []⟩]
def f86.r5 : List IOper := [
⟨some 27, .build [.d (.str []), .d (.str []), .nils] [], none, []⟩,
⟨some 28, .mv (.t 7), none, []⟩,
⟨none, .store 3 (.t 4) (.t 27), none, []⟩,
⟨some 5, .mv (.t 28), none, []⟩]
def f86.r6 : List IOper := [
⟨some 29, .mv (.t 1), none, []⟩,
⟨some 30, .faddr 0 1 (.t 2), none, []⟩,
⟨some 31, .load 1 false (.t 30), none, []⟩,
⟨some 32, .call 130 [(.t 29), (.c (.d (.int .i64 3))), (.t 31)], none, []⟩,
⟨some 8, .mv (.t 32), none, []⟩]
def f86.r7 : List IOper := [
⟨some 33, .mv (.t 8), none, []⟩,
⟨some 34, .bin .geq (.t 33) (.c (.d (.int .i64 0))), none, []⟩]
def f86.r8 : List IOper := [
⟨some 35, .mv (.t 1), none, []⟩,
⟨some 36, .mv (.t 8), none, []⟩,
⟨some 37, .iaddr 7 (.t 35) (.t 36), none, []⟩,
⟨some 38, .faddr 6 1 (.t 37), none, []⟩,
⟨some 39, .load 1 false (.t 38), none, []⟩,
⟨some 40, .faddr 0 1 (.t 2), none, []⟩,
⟨none, .store 1 (.t 40) (.t 39), none, []⟩]
def f86.r9 : List IOper := [
⟨some 41, .faddr 0 1 (.t 2), none, []⟩,
⟨some 42, .load 1 false (.t 41), none, []⟩,
⟨some 43, .load 2 true (.t 6), none, []⟩,
⟨some 44, .build [.d (.str []), .d (.str []), .nils] [(0, 1, (.t 42)), (1, 2, (.t 43))], none, []⟩,
⟨none, .store 3 (.t 4) (.t 44), none, []⟩,
⟨some 5, .mv (.c (.d (.int .i64 0))), none, []⟩]
def f86 : IFn := ⟨2, 45, [.cell 4 3 true, .t 5], (.seq (.region f86.r0) (.seq (.seq (.region f86.r1) (.cond (.t 16) (.seq (.region f86.r2) .ret) .skip)) (.seq (.region f86.r3) (.seq (.seq (.region f86.r4) (.cond (.t 26) (.seq (.region f86.r5) .ret) .skip)) (.seq (.seq (.region f86.r6) (.seq (.region f86.r7) (.cond (.t 34) (.region f86.r8) .skip))) (.seq (.region f86.r9) .ret))))))⟩
def f87.r0 : List IOper := [
⟨some 2, .box 2 (.t 0), none, []⟩,
⟨some 4, .alloc [.d (.int .i64 0), .nils], none, []⟩,
⟨some 5, .mv (.c (.d (.int .i64 0))), none, []⟩]
def f87.r1 : List IOper := [
⟨some 10, .load 2 true (.t 2), none, []⟩,
⟨some 11, .call 48 [(.t 10)], none, []⟩,
⟨some 12, .un .not (.t 11), none, []⟩]
def f87.r2 : List IOper := [
⟨some 13, .build [.d (.int .i64 0), .nils] [], none, []⟩,
⟨none, .store 2 (.t 4) (.t 13), none, []⟩,
⟨some 5, .mv (.c (.d (.int .i64 1))), none, []⟩]
def f87.r3 : List IOper := [
⟨some 14, .faddr 0 1 (.t 2), none, []⟩,
⟨some 15, .load 1 false (.t 14), none, []⟩,
⟨some 16, .mkmap, none, []⟩,
⟨some 17, .build [.d (.int .i64 0), .nilm] [(0, 1, (.t 15)), (1, 1, (.t 16))], none, []⟩,
⟨some 6, .alloc [.d (.int .i64 0), .nilm], none, []⟩,
⟨none, .store 2 (.t 6) (.t 17), none, []⟩]
def f87.r4 : List IOper := [
⟨some 18, .faddr 1 1 (.t 2), none, []⟩,
⟨some 19, .load 1 false (.t 18), none, []⟩,
⟨some 20, .len .slice (.t 19), none, []⟩,
⟨some 21, .mv (.c (.d (.int .i64 0))), none, []⟩]
def f87.r5 : List IOper := [
⟨some 22, .bin .lss (.t 21) (.t 20), none, []⟩]
def f87.r6 : List IOper := [
⟨some 23, .iaddr 2 (.t 19) (.t 21), none, []⟩,
⟨some 24, .load 2 true (.t 23), none, []⟩,
⟨some 8, .alloc [.d (.str []), .d (.int .i64 0)], none, []⟩,
⟨none, .store 2 (.t 8) (.t 24), none, []⟩]
def f87.r7 : List IOper := [
⟨some 25, .mv (.t 1), none, []⟩,
⟨some 26, .mkfunc 136 [] [(.t 8)], none, []⟩,
⟨some 27, .call 84 [(.t 25), (.t 26)], none, []⟩,
⟨some 9, .mv (.t 27), none, []⟩]
def f87.r8 : List IOper := [
⟨some 37, .mv (.t 9), none, []⟩,
⟨some 38, .bin .lss (.t 37) (.c (.d (.int .i64 0))), none, []⟩,
⟨some 36, .mv (.t 38), none, []⟩]
def f87.r9 : List IOper := [
⟨some 39, .faddr 1 1 (.t 6), none, []⟩,
⟨some 40, .load 1 false (.t 39), none, []⟩,
⟨some 41, .faddr 0 1 (.t 8), none, []⟩,
⟨some 42, .load 1 false (.t 41), none, []⟩,
⟨some 43, .lookup .str (.d (.int .i64 0)) false (.t 40) (.t 42), none, []⟩,
⟨some 44, .faddr 1 1 (.t 8), none, []⟩,
⟨some 45, .load 1 false (.t 44), none, []⟩,
⟨some 46, .bin .add (.t 43) (.t 45), none, []⟩,
⟨none, .mapUpd .str (.t 40) (.t 42) (.t 46), none, []⟩]
def f87.r10 : List IOper := [
⟨some 48, .mv (.t 1), none, []⟩,
⟨some 49, .mv (.t 9), none, []⟩,
⟨some 50, .iaddr 7 (.t 48) (.t 49), none, []⟩,
⟨some 51, .faddr 2 2 (.t 50), none, []⟩,
⟨some 52, .load 2 true (.t 51), none, []⟩,
⟨some 53, .call 48 [(.t 52)], none, []⟩,
⟨some 54, .un .not (.t 53), none, []⟩,
⟨some 47, .mv (.t 54), none, []⟩]
def f87.r11 : List IOper := [
⟨some 55, .build [.d (.int .i64 0), .nils] [], none, []⟩,
⟨none, .store 2 (.t 4) (.t 55), none, []⟩,
⟨some 5, .mv (.c (.d (.int .i64 1))), none, []⟩]
def f87.r12 : List IOper := [
⟨some 28, .mv (.t 1), none, []⟩,
⟨some 29, .mv (.t 9), none, []⟩,
⟨some 30, .iaddr 7 (.t 28) (.t 29), none, [0, 1]⟩,
⟨some 31, .faddr 2 2 (.t 30), none, [2]⟩,
⟨some 32, .load 2 true (.t 31), none, [3]⟩,
⟨some 33, .faddr 1 1 (.t 8), none, []⟩,
⟨some 34, .load 1 false (.t 33), none, [5]⟩,
⟨some 35, .call 137 [(.t 6), (.t 32), (.t 34)], none, [4, 6]⟩]
def f87.r13 : List IOper := [
⟨some 56, .bin .add (.t 21) (.c (.d (.int .i64 1))), none, []⟩,
⟨some 21, .mv (.t 56), none, []⟩]
def f87.l14 : IR := (.seq (.region f87.r5) (.seq (.cond (.t 22) .skip (.exit 0)) (.seq (.block 1 (.seq (.region f87.r6) (.seq (.region f87.r7) (.block 2 (.seq (.region f87.r8) (.cond (.t 36) (.region f87.r9) (.seq (.region f87.r10) (.cond (.t 47) (.seq (.region f87.r11) .ret) (.draw f87.r12))))))))) (.region f87.r13))))
def f87.r15 : List IOper := [
⟨some 57, .call 138 [(.t 6)], none, []⟩,
⟨some 58, .ext (.t 57) 0, none, []⟩,
⟨some 59, .ext (.t 57) 1, none, []⟩,
⟨none, .store 2 (.t 4) (.t 58), none, []⟩,
⟨some 5, .mv (.t 59), none, []⟩]
def f87 : IFn := ⟨2, 60, [.cell 4 2 true, .t 5], (.seq (.region f87.r0) (.seq (.seq (.region f87.r1) (.cond (.t 12) (.seq (.region f87.r2) .ret) .skip)) (.seq (.region f87.r3) (.seq (.seq (.region f87.r4) (.block 0 (.loop f87.l14))) (.seq (.region f87.r15) .ret)))))⟩
def f88.r0 : List IOper := [
⟨some 2, .mv (.c (.d (.bool false))), none, []⟩]
def f88.r1 : List IOper := [
⟨some 3, .mv (.t 0), none, []⟩,
⟨some 4, .bin .geq (.t 3) (.c (.d (.int .i64 (-1000000)))), none, []⟩,
⟨some 5, .mv (.t 4), none, []⟩,
⟨some 6, .mv (.t 0), some (5, true), []⟩,
⟨some 7, .bin .leq (.t 6) (.c (.d (.int .i64 1000000))), some (5, true), []⟩,
⟨some 8, .pick (.t 5) (.t 7) (.c (.d (.bool false))), none, []⟩,
⟨some 2, .mv (.t 8), none, []⟩]
def f88 : IFn := ⟨1, 9, [.t 2], (.seq (.region f88.r0) (.seq (.region f88.r1) .ret))⟩
def f89.r0 : List IOper := [
⟨some 2, .mv (.c (.d (.bool false))), none, []⟩]
def f89.r1 : List IOper := [
⟨some 5, .mv (.t 0), none, []⟩,
⟨some 6, .len .str (.t 5), none, []⟩,
⟨some 7, .bin .eql (.t 6) (.c (.d (.int .i64 0))), none, []⟩,
⟨some 8, .mv (.t 7), none, []⟩,
⟨some 9, .mv (.t 0), some (8, false), []⟩,
⟨some 10, .len .str (.t 9), some (8, false), []⟩,
⟨some 11, .bin .gtr (.t 10) (.c (.d (.int .i64 30))), some (8, false), []⟩,
⟨some 12, .pick (.t 8) (.c (.d (.bool true))) (.t 11), none, []⟩]
def f89.r2 : List IOper := [
⟨some 2, .mv (.c (.d (.bool false))), none, []⟩]
def f89.r3 : List IOper := [
⟨some 13, .mv (.t 0), none, []⟩,
⟨some 14, .idxS (.t 13) (.c (.d (.int .i64 0))), none, []⟩,
⟨some 15, .bin .eql (.t 14) (.c (.d (.int .u8 95))), none, []⟩]
def f89.r4 : List IOper := [
⟨some 16, .mv (.t 0), none, []⟩,
⟨some 17, .len .str (.t 16), none, []⟩,
⟨some 18, .bin .lss (.t 17) (.c (.d (.int .i64 2))), none, []⟩,
⟨some 19, .mv (.t 18), none, []⟩,
⟨some 20, .mv (.t 0), some (19, false), []⟩,
⟨some 21, .len .str (.t 20), some (19, false), []⟩,
⟨some 22, .bin .gtr (.t 21) (.c (.d (.int .i64 10))), some (19, false), []⟩,
⟨some 23, .pick (.t 19) (.c (.d (.bool true))) (.t 22), none, []⟩,
⟨some 24, .mv (.t 23), none, []⟩,
⟨some 25, .mv (.t 0), some (24, false), []⟩,
⟨some 26, .idxS (.t 25) (.c (.d (.int .i64 1))), some (24, false), []⟩,
⟨some 27, .bin .eql (.t 26) (.c (.d (.int .u8 48))), some (24, false), []⟩,
⟨some 28, .pick (.t 24) (.c (.d (.bool true))) (.t 27), none, []⟩]
def f89.r5 : List IOper := [
⟨some 2, .mv (.c (.d (.bool false))), none, []⟩]
def f89.r6 : List IOper := [
⟨some 3, .mv (.c (.d (.int .i64 1))), none, []⟩]
def f89.r7 : List IOper := [
⟨some 29, .mv (.t 3), none, []⟩,
⟨some 30, .mv (.t 0), none, []⟩,
⟨some 31, .len .str (.t 30), none, []⟩,
⟨some 32, .bin .lss (.t 29) (.t 31), none, []⟩]
def f89.r8 : List IOper := [
⟨some 35, .mv (.t 0), none, []⟩,
⟨some 36, .mv (.t 3), none, []⟩,
⟨some 37, .idxS (.t 35) (.t 36), none, []⟩,
⟨some 38, .call 139 [(.t 37)], none, []⟩,
⟨some 39, .un .not (.t 38), none, []⟩]
def f89.r9 : List IOper := [
⟨some 2, .mv (.c (.d (.bool false))), none, []⟩]
def f89.r10 : List IOper := [
⟨some 33, .mv (.t 3), none, []⟩,
⟨some 34, .bin .add (.t 33) (.c (.d (.int .i64 1))), none, []⟩,
⟨some 3, .mv (.t 34), none, []⟩]
def f89.l11 : IR := (.seq (.seq (.region f89.r7) (.cond (.t 32) .skip (.exit 0))) (.seq (.block 1 (.seq (.region f89.r8) (.cond (.t 39) (.seq (.region f89.r9) .ret) .skip))) (.region f89.r10)))
def f89.r12 : List IOper := [
⟨some 2, .mv (.c (.d (.bool true))), none, []⟩]
def f89.r13 : List IOper := [
⟨some 4, .mv (.c (.d (.int .i64 0))), none, []⟩]
def f89.r14 : List IOper := [
⟨some 40, .mv (.t 4), none, []⟩,
⟨some 41, .mv (.t 0), none, []⟩,
⟨some 42, .len .str (.t 41), none, []⟩,
⟨some 43, .bin .lss (.t 40) (.t 42), none, []⟩]
def f89.r15 : List IOper := [
⟨some 46, .mv (.t 0), none, []⟩,
⟨some 47, .mv (.t 4), none, []⟩,
⟨some 48, .idxS (.t 46) (.t 47), none, []⟩,
⟨some 49, .call 140 [(.t 48)], none, []⟩,
⟨some 50, .un .not (.t 49), none, []⟩,
⟨some 51, .mv (.t 50), none, []⟩,
⟨some 52, .mv (.t 4), some (51, true), []⟩,
⟨some 53, .bin .eql (.t 52) (.c (.d (.int .i64 0))), some (51, true), []⟩,
⟨some 54, .mv (.t 53), some (51, true), []⟩,
⟨some 55, .mv (.t 0), some (54, false), []⟩,
⟨some 56, .mv (.t 4), some (54, false), []⟩,
⟨some 57, .idxS (.t 55) (.t 56), some (54, false), []⟩,
⟨some 58, .call 139 [(.t 57)], some (54, false), []⟩,
⟨some 59, .un .not (.t 58), some (54, false), []⟩,
⟨some 60, .pick (.t 54) (.c (.d (.bool true))) (.t 59), some (51, true), []⟩,
⟨some 61, .pick (.t 51) (.t 60) (.c (.d (.bool false))), none, []⟩]
def f89.r16 : List IOper := [
⟨some 2, .mv (.c (.d (.bool false))), none, []⟩]
def f89.r17 : List IOper := [
⟨some 44, .mv (.t 4), none, []⟩,
⟨some 45, .bin .add (.t 44) (.c (.d (.int .i64 1))), none, []⟩,
⟨some 4, .mv (.t 45), none, []⟩]
def f89.l18 : IR := (.seq (.seq (.region f89.r14) (.cond (.t 43) .skip (.exit 2))) (.seq (.block 3 (.seq (.region f89.r15) (.cond (.t 61) (.seq (.region f89.r16) .ret) .skip))) (.region f89.r17)))
def f89.r19 : List IOper := [
⟨some 2, .mv (.c (.d (.bool true))), none, []⟩]
def f89 : IFn := ⟨1, 62, [.t 2], (.seq (.region f89.r0) (.seq (.seq (.region f89.r1) (.cond (.t 12) (.seq (.region f89.r2) .ret) .skip)) (.seq (.seq (.region f89.r3) (.cond (.t 15) (.seq (.seq (.region f89.r4) (.cond (.t 28) (.seq (.region f89.r5) .ret) .skip)) (.seq (.seq (.region f89.r6) (.block 0 (.loop f89.l11))) (.seq (.region f89.r12) .ret))) .skip)) (.seq (.seq (.region f89.r13) (.block 2 (.loop f89.l18))) (.seq (.region f89.r19) .ret)))))⟩
def f93.r0 : List IOper := [
⟨some 8, .mv (.c (.d (.bool true))), none, []⟩]
def f93.r1 : List IOper := [
⟨some 9, .mv (.c (.d (.bool true))), none, []⟩]
def f93.r2 : List IOper := [
⟨some 19, .mv (.t 2), none, []⟩,
⟨some 20, .mv (.t 1), none, []⟩,
⟨some 21, .bin .sub (.t 19) (.t 20), none, []⟩,
⟨some 10, .mv (.t 21), none, []⟩]
def f93.r3 : List IOper := [
⟨some 22, .mv (.t 10), none, []⟩,
⟨some 23, .bin .leq (.t 22) (.c (.d (.int .i64 12))), none, []⟩]
def f93.r4 : List IOper := [
⟨some 24, .mv (.t 0), none, []⟩,
⟨some 25, .mv (.t 1), none, []⟩,
⟨some 26, .mv (.t 2), none, []⟩,
⟨some 27, .call 142 [(.t 24), (.t 25), (.t 26)], none, []⟩]
def f93.r5 : List IOper := [
⟨some 28, .mv (.t 3), none, []⟩,
⟨some 29, .bin .eql (.t 28) (.c (.d (.int .i64 0))), none, []⟩]
def f93.r6 : List IOper := [
⟨some 30, .mv (.t 0), none, []⟩,
⟨some 31, .mv (.t 1), none, []⟩,
⟨some 32, .mv (.t 2), none, []⟩,
⟨some 33, .call 143 [(.t 30), (.t 31), (.t 32)], none, []⟩]
def f93.r7 : List IOper := [
⟨some 34, .mv (.t 8), none, []⟩,
⟨some 35, .un .not (.t 34), none, []⟩]
def f93.r8 : List IOper := [
⟨some 36, .mv (.t 0), none, []⟩,
⟨some 37, .mv (.t 1), none, []⟩,
⟨some 38, .mv (.t 2), none, []⟩,
⟨some 39, .call 144 [(.t 36), (.t 37), (.t 38)], none, []⟩]
def f93.r9 : List IOper := [
⟨some 40, .mv (.t 3), none, []⟩,
⟨some 41, .bin .sub (.t 40) (.c (.d (.int .i64 1))), none, []⟩,
⟨some 3, .mv (.t 41), none, []⟩]
def f93.r10 : List IOper := [
⟨some 43, .mv (.t 0), none, []⟩,
⟨some 44, .mv (.t 1), none, []⟩,
⟨some 45, .mv (.t 2), none, []⟩,
⟨some 46, .call 145 [(.t 43), (.t 44), (.t 45)], none, []⟩,
⟨some 42, .mv (.t 46), none, []⟩,
⟨some 47, .ext (.t 42) 0, none, []⟩,
⟨some 48, .ext (.t 42) 1, none, []⟩,
⟨some 11, .mv (.t 47), none, []⟩,
⟨some 12, .mv (.t 48), none, []⟩]
def f93.r11 : List IOper := [
⟨some 49, .mv (.t 12), none, []⟩,
⟨some 50, .bin .eql (.t 49) (.c (.d (.int .i64 2))), none, []⟩]
def f93.r12 : List IOper := [
⟨some 51, .mv (.t 0), none, []⟩,
⟨some 52, .mv (.t 1), none, []⟩,
⟨some 53, .mv (.t 2), none, []⟩,
⟨some 54, .call 146 [(.t 51), (.t 52), (.t 53)], none, []⟩]
def f93.r13 : List IOper := [
⟨some 55, .mv (.t 2), none, []⟩,
⟨some 56, .bin .sub (.t 55) (.c (.d (.int .i64 1))), none, []⟩,
⟨some 57, .mv (.t 11), none, []⟩,
⟨some 58, .mv (.t 1), none, []⟩,
⟨some 59, .bin .sub (.t 57) (.t 58), none, []⟩,
⟨some 60, .bin .sub (.t 56) (.t 59), none, []⟩,
⟨some 11, .mv (.t 60), none, []⟩]
def f93.r14 : List IOper := [
⟨some 12, .mv (.c (.d (.int .i64 1))), none, []⟩]
def f93.r15 : List IOper := [
⟨some 61, .mv (.t 8), none, []⟩,
⟨some 62, .mv (.t 61), none, []⟩,
⟨some 63, .mv (.t 9), some (62, true), []⟩,
⟨some 64, .pick (.t 62) (.t 63) (.c (.d (.bool false))), none, []⟩,
⟨some 65, .mv (.t 64), none, []⟩,
⟨some 66, .mv (.t 12), some (65, true), []⟩,
⟨some 67, .bin .eql (.t 66) (.c (.d (.int .i64 1))), some (65, true), []⟩,
⟨some 68, .pick (.t 65) (.t 67) (.c (.d (.bool false))), none, []⟩]
def f93.r16 : List IOper := [
⟨some 69, .mv (.t 0), none, []⟩,
⟨some 70, .mv (.t 1), none, []⟩,
⟨some 71, .mv (.t 2), none, []⟩,
⟨some 72, .call 147 [(.t 69), (.t 70), (.t 71)], none, []⟩]
def f93.r17 : List IOper := [
⟨some 73, .mv (.t 1), none, []⟩,
⟨some 74, .bin .gtr (.t 73) (.c (.d (.int .i64 0))), none, [0]⟩,
⟨some 75, .mv (.t 74), none, [1]⟩,
⟨some 76, .mv (.t 0), some (75, true), [2]⟩,
⟨some 77, .mv (.t 1), some (75, true), [2]⟩,
⟨some 78, .bin .sub (.t 77) (.c (.d (.int .i64 1))), some (75, true), [4, 2]⟩,
⟨some 79, .iaddr 1 (.t 76) (.t 78), some (75, true), [3, 5, 2]⟩,
⟨some 80, .load 1 false (.t 79), some (75, true), [6, 2]⟩,
⟨some 81, .mv (.t 0), some (75, true), [2]⟩,
⟨some 82, .mv (.t 11), some (75, true), [2]⟩,
⟨some 83, .iaddr 1 (.t 81) (.t 82), some (75, true), [8, 9, 2]⟩,
⟨some 84, .load 1 false (.t 83), some (75, true), [10, 2]⟩,
⟨some 85, .call 148 [(.t 80), (.t 84)], some (75, true), [7, 11, 2, 2]⟩,
⟨some 86, .un .not (.t 85), some (75, true), [12, 2]⟩,
⟨some 87, .pick (.t 75) (.t 86) (.c (.d (.bool false))), none, [2, 13]⟩]
def f93.r18 : List IOper := [
⟨some 88, .mv (.t 0), none, []⟩,
⟨some 89, .mv (.t 1), none, []⟩,
⟨some 90, .mv (.t 2), none, []⟩,
⟨some 91, .mv (.t 11), none, []⟩,
⟨some 92, .call 149 [(.t 88), (.t 89), (.t 90), (.t 91)], none, []⟩,
⟨some 13, .mv (.t 92), none, []⟩]
def f93.r19 : List IOper := [
⟨some 93, .mv (.t 13), none, []⟩,
⟨some 1, .mv (.t 93), none, []⟩]
def f93.r20 : List IOper := [
⟨some 95, .mv (.t 0), none, []⟩,
⟨some 96, .mv (.t 1), none, []⟩,
⟨some 97, .mv (.t 2), none, []⟩,
⟨some 98, .mv (.t 11), none, []⟩,
⟨some 99, .call 150 [(.t 95), (.t 96), (.t 97), (.t 98)], none, []⟩,
⟨some 94, .mv (.t 99), none, []⟩,
⟨some 100, .ext (.t 94) 0, none, []⟩,
⟨some 101, .ext (.t 94) 1, none, []⟩,
⟨some 14, .mv (.t 100), none, []⟩,
⟨some 15, .mv (.t 101), none, []⟩]
def f93.r21 : List IOper := [
⟨some 102, .mv (.t 15), none, []⟩,
⟨some 9, .mv (.t 102), none, []⟩]
def f93.r22 : List IOper := [
⟨some 103, .mv (.t 14), none, []⟩,
⟨some 104, .mv (.t 1), none, []⟩,
⟨some 105, .bin .sub (.t 103) (.t 104), none, []⟩,
⟨some 106, .mv (.t 2), none, []⟩,
⟨some 107, .mv (.t 14), none, []⟩,
⟨some 108, .bin .sub (.t 106) (.t 107), none, []⟩,
⟨some 16, .mv (.t 105), none, []⟩,
⟨some 17, .mv (.t 108), none, []⟩]
def f93.r23 : List IOper := [
⟨some 109, .mv (.t 10), none, []⟩,
⟨some 110, .bin .quo (.t 109) (.c (.d (.int .i64 8))), none, []⟩,
⟨some 18, .mv (.t 110), none, []⟩]
def f93.r24 : List IOper := [
⟨some 111, .mv (.t 16), none, []⟩,
⟨some 112, .mv (.t 17), none, []⟩,
⟨some 113, .bin .lss (.t 111) (.t 112), none, []⟩]
def f93.r25 : List IOper := [
⟨some 114, .mv (.t 16), none, []⟩,
⟨some 115, .mv (.t 18), none, []⟩,
⟨some 116, .bin .geq (.t 114) (.t 115), none, []⟩,
⟨some 8, .mv (.t 116), none, []⟩]
def f93.r26 : List IOper := [
⟨some 117, .mv (.t 0), none, []⟩,
⟨some 118, .mv (.t 1), none, []⟩,
⟨some 119, .mv (.t 14), none, []⟩,
⟨some 120, .mv (.t 3), none, []⟩,
⟨some 121, .call 93 [(.t 117), (.t 118), (.t 119), (.t 120)], none, []⟩]
def f93.r27 : List IOper := [
⟨some 122, .mv (.t 14), none, []⟩,
⟨some 123, .bin .add (.t 122) (.c (.d (.int .i64 1))), none, []⟩,
⟨some 1, .mv (.t 123), none, []⟩]
def f93.r28 : List IOper := [
⟨some 124, .mv (.t 17), none, []⟩,
⟨some 125, .mv (.t 18), none, []⟩,
⟨some 126, .bin .geq (.t 124) (.t 125), none, []⟩,
⟨some 8, .mv (.t 126), none, []⟩]
def f93.r29 : List IOper := [
⟨some 127, .mv (.t 0), none, []⟩,
⟨some 128, .mv (.t 14), none, []⟩,
⟨some 129, .bin .add (.t 128) (.c (.d (.int .i64 1))), none, []⟩,
⟨some 130, .mv (.t 2), none, []⟩,
⟨some 131, .mv (.t 3), none, []⟩,
⟨some 132, .call 93 [(.t 127), (.t 129), (.t 130), (.t 131)], none, []⟩]
def f93.r30 : List IOper := [
⟨some 133, .mv (.t 14), none, []⟩,
⟨some 2, .mv (.t 133), none, []⟩]
def f93.l31 : IR := (.block 1 (.seq (.region f93.r2) (.seq (.seq (.region f93.r3) (.cond (.t 23) (.seq (.region f93.r4) .ret) .skip)) (.seq (.seq (.region f93.r5) (.cond (.t 29) (.seq (.region f93.r6) .ret) .skip)) (.seq (.seq (.region f93.r7) (.cond (.t 35) (.seq (.region f93.r8) (.region f93.r9)) .skip)) (.seq (.region f93.r10) (.seq (.seq (.region f93.r11) (.cond (.t 50) (.seq (.region f93.r12) (.seq (.region f93.r13) (.region f93.r14))) .skip)) (.seq (.seq (.region f93.r15) (.cond (.t 68) (.seq (.region f93.r16) (.cond (.t 72) .ret .skip)) .skip)) (.seq (.seq (.draw f93.r17) (.cond (.t 87) (.seq (.region f93.r18) (.seq (.region f93.r19) (.exit 1))) .skip)) (.seq (.region f93.r20) (.seq (.region f93.r21) (.seq (.region f93.r22) (.seq (.region f93.r23) (.seq (.region f93.r24) (.cond (.t 113) (.seq (.region f93.r25) (.seq (.region f93.r26) (.region f93.r27))) (.seq (.region f93.r28) (.seq (.region f93.r29) (.region f93.r30))))))))))))))))))
def f93 : IFn := ⟨4, 134, [], (.seq (.region f93.r0) (.seq (.region f93.r1) (.block 0 (.loop f93.l31))))⟩
def f94.r0 : List IOper := [
⟨some 2, .mv (.c (.d (.int .i64 0))), none, []⟩]
def f94.r1 : List IOper := [
⟨some 3, .mv (.t 0), none, []⟩,
⟨some 4, .conv .u32 (.t 3), none, []⟩,
⟨some 5, .call 151 [(.t 4)], none, []⟩,
⟨some 2, .mv (.t 5), none, []⟩]
def f94.r2 : List IOper := [
⟨some 6, .mv (.t 0), none, []⟩,
⟨some 7, .call 152 [(.t 6)], none, []⟩,
⟨some 2, .mv (.t 7), none, []⟩]
def f94 : IFn := ⟨1, 8, [.t 2], (.seq (.region f94.r0) (.seq (.cond (.c (.d (.bool false))) (.seq (.region f94.r1) .ret) .skip) (.seq (.region f94.r2) .ret)))⟩
def f95.r0 : List IOper := [
⟨some 4, .mv (.c (.d (.bool false))), none, []⟩]
def f95.r1 : List IOper := [
⟨some 5, .mv (.t 0), none, []⟩,
⟨some 6, .mv (.t 1), none, []⟩,
⟨some 7, .call 153 [(.t 5), (.t 6)], none, []⟩,
⟨some 8, .bin .geq (.t 7) (.c (.d (.int .i64 0))), none, []⟩,
⟨some 4, .mv (.t 8), none, []⟩]
def f95 : IFn := ⟨2, 9, [.t 4], (.seq (.region f95.r0) (.seq (.region f95.r1) .ret))⟩
def f98.r0 : List IOper := [
⟨some 2, .mv (.c (.nils)), none, []⟩]
def f98.r1 : List IOper := [
⟨some 3, .mv (.c (.nils)), none, []⟩]
def f98.r2 : List IOper := [
⟨some 4, .mv (.c (.d (.int .i64 0))), none, []⟩,
⟨some 5, .mv (.c (.d (.int .i64 0))), none, []⟩]
def f98.r3 : List IOper := [
⟨some 7, .mv (.t 0), none, []⟩,
⟨some 8, .len .str (.t 7), none, []⟩,
⟨some 9, .mv (.c (.d (.int .i64 0))), none, []⟩]
def f98.r4 : List IOper := [
⟨some 10, .bin .lss (.t 9) (.t 8), none, []⟩]
def f98.r5 : List IOper := [
⟨some 11, .mv (.t 9), none, []⟩,
⟨some 6, .mv (.t 11), none, []⟩]
def f98.r6 : List IOper := [
⟨some 12, .mv (.t 0), none, []⟩,
⟨some 13, .mv (.t 6), none, []⟩,
⟨some 14, .idxS (.t 12) (.t 13), none, []⟩]
def f98.r7 : List IOper := [
⟨some 16, .bin .eql (.t 14) (.c (.d (.int .u8 91))), none, []⟩,
⟨some 15, .mv (.t 16), none, []⟩]
def f98.r8 : List IOper := [
⟨some 17, .mv (.t 4), none, []⟩,
⟨some 18, .bin .add (.t 17) (.c (.d (.int .i64 1))), none, []⟩,
⟨some 4, .mv (.t 18), none, []⟩]
def f98.r9 : List IOper := [
⟨some 20, .bin .eql (.t 14) (.c (.d (.int .u8 93))), none, []⟩,
⟨some 19, .mv (.t 20), none, []⟩]
def f98.r10 : List IOper := [
⟨some 21, .mv (.t 4), none, []⟩,
⟨some 22, .bin .sub (.t 21) (.c (.d (.int .i64 1))), none, []⟩,
⟨some 4, .mv (.t 22), none, []⟩]
def f98.r11 : List IOper := [
⟨some 24, .bin .eql (.t 14) (.c (.d (.int .u8 44))), none, []⟩,
⟨some 23, .mv (.t 24), none, []⟩]
def f98.r12 : List IOper := [
⟨some 25, .mv (.t 4), none, []⟩,
⟨some 26, .bin .eql (.t 25) (.c (.d (.int .i64 0))), none, []⟩,
⟨some 27, .mv (.t 26), none, []⟩,
⟨some 28, .mv (.t 6), some (27, true), []⟩,
⟨some 29, .mv (.t 5), some (27, true), []⟩,
⟨some 30, .bin .geq (.t 28) (.t 29), some (27, true), []⟩,
⟨some 31, .pick (.t 27) (.t 30) (.c (.d (.bool false))), none, []⟩,
⟨some 32, .mv (.t 31), none, []⟩,
⟨some 33, .mv (.t 6), some (32, true), []⟩,
⟨some 34, .bin .add (.t 33) (.c (.d (.int .i64 1))), some (32, true), []⟩,
⟨some 35, .mv (.t 0), some (32, true), []⟩,
⟨some 36, .len .str (.t 35), some (32, true), []⟩,
⟨some 37, .bin .lss (.t 34) (.t 36), some (32, true), []⟩,
⟨some 38, .pick (.t 32) (.t 37) (.c (.d (.bool false))), none, []⟩]
def f98.r13 : List IOper := [
⟨some 39, .mv (.t 3), none, []⟩,
⟨some 40, .mv (.t 0), none, []⟩,
⟨some 41, .mv (.t 5), none, []⟩,
⟨some 42, .mv (.t 6), none, []⟩,
⟨some 43, .sslice (.t 40) (some (.t 41)) (some (.t 42)), none, []⟩,
⟨some 44, .mkSlice 1 1 [.d (.str [])] [(0, 1, (.t 43))], none, []⟩,
⟨some 45, .append 1 16 (.t 39) (.t 44), none, []⟩,
⟨some 3, .mv (.t 45), none, []⟩]
def f98.r14 : List IOper := [
⟨some 46, .mv (.t 6), none, []⟩,
⟨some 47, .bin .add (.t 46) (.c (.d (.int .i64 2))), none, []⟩,
⟨some 48, .mv (.t 0), none, []⟩,
⟨some 49, .len .str (.t 48), none, []⟩,
⟨some 50, .minmax false [(.t 47), (.t 49)], none, []⟩,
⟨some 5, .mv (.t 50), none, []⟩]
def f98.r15 : List IOper := [
⟨some 51, .bin .add (.t 9) (.c (.d (.int .i64 1))), none, []⟩,
⟨some 9, .mv (.t 51), none, []⟩]
def f98.l16 : IR := (.seq (.region f98.r4) (.seq (.cond (.t 10) .skip (.exit 0)) (.seq (.block 1 (.seq (.region f98.r5) (.seq (.region f98.r6) (.block 2 (.seq (.region f98.r7) (.cond (.t 15) (.region f98.r8) (.seq (.region f98.r9) (.cond (.t 19) (.region f98.r10) (.seq (.region f98.r11) (.cond (.t 23) (.seq (.region f98.r12) (.cond (.t 38) (.seq (.region f98.r13) (.region f98.r14)) .skip)) .skip)))))))))) (.region f98.r15))))
def f98.r17 : List IOper := [
⟨some 52, .mv (.t 3), none, []⟩,
⟨some 53, .mv (.t 0), none, []⟩,
⟨some 54, .mv (.t 5), none, []⟩,
⟨some 55, .mv (.t 0), none, []⟩,
⟨some 56, .len .str (.t 55), none, []⟩,
⟨some 57, .minmax false [(.t 54), (.t 56)], none, []⟩,
⟨some 58, .sslice (.t 53) (some (.t 57)) none, none, []⟩,
⟨some 59, .mkSlice 1 1 [.d (.str [])] [(0, 1, (.t 58))], none, []⟩,
⟨some 60, .append 1 16 (.t 52) (.t 59), none, []⟩,
⟨some 2, .mv (.t 60), none, []⟩]
def f98 : IFn := ⟨1, 61, [.t 2], (.seq (.region f98.r0) (.seq (.region f98.r1) (.seq (.region f98.r2) (.seq (.seq (.region f98.r3) (.block 0 (.loop f98.l16))) (.seq (.region f98.r17) .ret)))))⟩
def f99.r0 : List IOper := [
⟨some 2, .alloc [.d (.str []), .d (.str []), .nils], none, []⟩,
⟨some 3, .mv (.c (.d (.int .i64 0))), none, []⟩]
def f99.r1 : List IOper := [
⟨some 8, .mv (.t 0), none, []⟩,
⟨some 9, .build [.d (.str []), .d (.str []), .nils] [(0, 1, (.t 8))], none, []⟩,
⟨some 4, .alloc [.d (.str []), .d (.str []), .nils], none, []⟩,
⟨none, .store 3 (.t 4) (.t 9), none, []⟩]
def f99.r2 : List IOper := [
⟨some 10, .mv (.t 0), none, []⟩,
⟨some 11, .call 156 [(.t 10), (.c (.d (.int .u8 93)))], none, []⟩,
⟨some 5, .mv (.t 11), none, []⟩]
def f99.r3 : List IOper := [
⟨some 12, .mv (.t 5), none, []⟩,
⟨some 13, .bin .geq (.t 12) (.c (.d (.int .i64 0))), none, []⟩]
def f99.r4 : List IOper := [
⟨some 15, .mv (.t 0), none, []⟩,
⟨some 16, .mv (.t 5), none, []⟩,
⟨some 17, .bin .add (.t 16) (.c (.d (.int .i64 1))), none, []⟩,
⟨some 18, .sslice (.t 15) none (some (.t 17)), none, []⟩,
⟨some 19, .call 157 [(.t 18)], none, []⟩,
⟨some 14, .mv (.t 19), none, []⟩,
⟨some 20, .ext (.t 14) 0, none, []⟩,
⟨some 21, .ext (.t 14) 1, none, []⟩,
⟨some 6, .alloc [.d (.str []), .nils], none, []⟩,
⟨none, .store 2 (.t 6) (.t 20), none, []⟩,
⟨some 7, .mv (.t 21), none, []⟩]
def f99.r5 : List IOper := [
⟨some 22, .mv (.t 7), none, []⟩,
⟨some 23, .bin .neq (.t 22) (.c (.d (.int .i64 0))), none, []⟩]
def f99.r6 : List IOper := [
⟨some 24, .build [.d (.str []), .d (.str []), .nils] [], none, []⟩,
⟨none, .store 3 (.t 2) (.t 24), none, []⟩,
⟨some 3, .mv (.c (.d (.int .i64 6))), none, []⟩]
def f99.r7 : List IOper := [
⟨some 25, .mv (.t 0), none, []⟩,
⟨some 26, .mv (.t 5), none, []⟩,
⟨some 27, .bin .add (.t 26) (.c (.d (.int .i64 1))), none, [1]⟩,
⟨some 28, .sslice (.t 25) (some (.t 27)) none, none, [0, 2]⟩,
⟨some 29, .load 2 true (.t 6), none, []⟩,
⟨some 30, .build [.d (.str []), .d (.str []), .nils] [(0, 1, (.t 28)), (1, 2, (.t 29))], none, [3, 4]⟩,
⟨none, .store 3 (.t 4) (.t 30), none, [5, 0, 1, 2, 3, 4, 5]⟩]
def f99.r8 : List IOper := [
⟨some 31, .load 3 true (.t 4), none, []⟩,
⟨some 32, .call 125 [(.t 31)], none, []⟩,
⟨some 33, .un .not (.t 32), none, []⟩,
⟨some 34, .mv (.t 33), none, []⟩,
⟨some 35, .load 3 true (.t 4), some (34, false), []⟩,
⟨some 36, .call 158 [(.t 35)], some (34, false), []⟩,
⟨some 37, .mv (.t 0), some (34, false), []⟩,
⟨some 38, .bin .neq (.t 36) (.t 37), some (34, false), []⟩,
⟨some 39, .pick (.t 34) (.c (.d (.bool true))) (.t 38), none, []⟩]
def f99.r9 : List IOper := [
⟨some 40, .build [.d (.str []), .d (.str []), .nils] [], none, []⟩,
⟨none, .store 3 (.t 2) (.t 40), none, []⟩,
⟨some 3, .mv (.c (.d (.int .i64 6))), none, []⟩]
def f99.r10 : List IOper := [
⟨some 41, .load 3 true (.t 4), none, []⟩,
⟨none, .store 3 (.t 2) (.t 41), none, []⟩,
⟨some 3, .mv (.c (.d (.int .i64 0))), none, []⟩]
def f99 : IFn := ⟨1, 42, [.cell 2 3 true, .t 3], (.seq (.region f99.r0) (.seq (.region f99.r1) (.seq (.seq (.region f99.r2) (.seq (.region f99.r3) (.cond (.t 13) (.seq (.region f99.r4) (.seq (.seq (.region f99.r5) (.cond (.t 23) (.seq (.region f99.r6) .ret) .skip)) (.draw f99.r7))) .skip))) (.seq (.seq (.region f99.r8) (.cond (.t 39) (.seq (.region f99.r9) .ret) .skip)) (.seq (.region f99.r10) .ret)))))⟩
def f101.r0 : List IOper := [
⟨some 2, .alloc [.d (.int .i64 0), .nils], none, []⟩,
⟨some 3, .mv (.c (.d (.int .i64 0))), none, []⟩]
def f101.r1 : List IOper := [
⟨some 9, .mv (.t 0), none, []⟩,
⟨some 10, .mkmap, none, []⟩,
⟨some 11, .build [.d (.int .i64 0), .nilm] [(1, 1, (.t 10))], none, []⟩,
⟨some 12, .build [.d (.str []), .d (.int .i64 0), .nilm] [(0, 1, (.t 9)), (1, 2, (.t 11))], none, []⟩,
⟨some 13, .box 3 (.t 12), none, []⟩,
⟨some 4, .mv (.t 13), none, []⟩]
def f101.r2 : List IOper := [
⟨some 14, .mv (.t 4), none, []⟩,
⟨some 15, .mkfunc 160 [(.t 14)] [], none, []⟩,
⟨some 5, .mv (.t 15), none, []⟩]
def f101.r3 : List IOper := [
⟨some 16, .mv (.t 4), none, []⟩,
⟨some 17, .call 161 [(.t 16)], none, []⟩]
def f101.r4 : List IOper := [
⟨some 19, .mv (.t 4), none, []⟩,
⟨some 20, .call 162 [(.t 19)], none, []⟩,
⟨some 18, .mv (.t 20), none, []⟩,
⟨some 21, .ext (.t 18) 0, none, []⟩,
⟨some 22, .ext (.t 18) 1, none, []⟩,
⟨some 6, .mv (.t 21), none, []⟩,
⟨some 7, .mv (.t 22), none, []⟩]
def f101.r5 : List IOper := [
⟨some 23, .mv (.t 4), none, []⟩,
⟨some 24, .call 161 [(.t 23)], none, []⟩]
def f101.r6 : List IOper := [
⟨some 25, .mv (.t 5), none, []⟩,
⟨some 26, .mv (.t 6), none, []⟩,
⟨some 27, .callv (.t 25) [(.t 26)], none, []⟩,
⟨some 28, .un .not (.t 27), none, []⟩]
def f101.r7 : List IOper := [
⟨some 29, .build [.d (.int .i64 0), .nils] [], none, []⟩,
⟨none, .store 2 (.t 2) (.t 29), none, []⟩,
⟨some 3, .mv (.c (.d (.int .i64 6))), none, []⟩]
def f101.r8 : List IOper := [
⟨some 30, .mv (.t 4), none, []⟩,
⟨some 31, .call 161 [(.t 30)], none, []⟩]
def f101.r9 : List IOper := [
⟨some 32, .mv (.t 4), none, []⟩,
⟨some 33, .nilchk (.t 32), none, []⟩,
⟨some 34, .faddr 0 1 (.t 33), none, []⟩,
⟨some 35, .load 1 false (.t 34), none, []⟩,
⟨some 36, .bin .eql (.t 35) (.c (.d (.str []))), none, []⟩]
def f101.r10 : List IOper := [
⟨some 37, .mv (.t 4), none, []⟩,
⟨some 38, .nilchk (.t 37), none, []⟩,
⟨some 39, .faddr 1 2 (.t 38), none, []⟩,
⟨some 40, .call 138 [(.t 39)], none, []⟩,
⟨some 41, .ext (.t 40) 0, none, []⟩,
⟨some 42, .ext (.t 40) 1, none, []⟩,
⟨none, .store 2 (.t 2) (.t 41), none, []⟩,
⟨some 3, .mv (.t 42), none, []⟩]
def f101.r11 : List IOper := [
⟨some 8, .mv (.c (.d (.bool false))), none, []⟩]
def f101.r12 : List IOper := [
⟨some 44, .mv (.t 4), none, []⟩,
⟨some 45, .call 162 [(.t 44)], none, []⟩,
⟨some 43, .mv (.t 45), none, []⟩,
⟨some 46, .ext (.t 43) 0, none, []⟩,
⟨some 47, .ext (.t 43) 1, none, []⟩,
⟨some 6, .mv (.t 46), none, []⟩,
⟨some 8, .mv (.t 47), none, []⟩]
def f101.r13 : List IOper := [
⟨some 48, .mv (.t 8), none, []⟩,
⟨some 49, .un .not (.t 48), none, []⟩]
def f101.r14 : List IOper := [
⟨some 50, .build [.d (.int .i64 0), .nils] [], none, []⟩,
⟨none, .store 2 (.t 2) (.t 50), none, []⟩,
⟨some 3, .mv (.c (.d (.int .i64 6))), none, []⟩]
def f101.l15 : IR := (.block 1 (.seq (.region f101.r5) (.seq (.seq (.region f101.r6) (.cond (.t 28) (.seq (.region f101.r7) .ret) .skip)) (.seq (.region f101.r8) (.seq (.seq (.region f101.r9) (.cond (.t 36) (.seq (.region f101.r10) .ret) .skip)) (.seq (.region f101.r11) (.seq (.region f101.r12) (.seq (.region f101.r13) (.cond (.t 49) (.seq (.region f101.r14) .ret) .skip)))))))))
def f101 : IFn := ⟨1, 51, [.cell 2 2 true, .t 3], (.seq (.region f101.r0) (.seq (.region f101.r1) (.seq (.region f101.r2) (.seq (.region f101.r3) (.seq (.region f101.r4) (.block 0 (.loop f101.l15)))))))⟩
def f102.r0 : List IOper := [
⟨some 1, .box 5 (.t 0), none, []⟩,
⟨some 2, .mv (.c (.d (.str []))), none, []⟩,
⟨some 3, .mv (.c (.d (.int .i64 0))), none, []⟩]
def f102.r1 : List IOper := [
⟨some 5, .load 5 true (.t 1), none, []⟩,
⟨some 6, .call 79 [(.t 5)], none, []⟩,
⟨some 7, .un .not (.t 6), none, []⟩]
def f102.r2 : List IOper := [
⟨some 2, .mv (.c (.d (.str []))), none, []⟩,
⟨some 3, .mv (.c (.d (.int .i64 1))), none, []⟩]
def f102.r3 : List IOper := [
⟨some 8, .faddr 0 1 (.t 1), none, []⟩,
⟨some 9, .load 1 false (.t 8), none, [0]⟩,
⟨some 10, .call 163 [(.t 9), (.f 158)], none, [1]⟩,
⟨some 11, .bin .add (.c (.d (.str [40]))) (.t 10), none, [2]⟩,
⟨some 12, .bin .add (.t 11) (.c (.d (.str [41, 32, 45, 62, 32]))), none, [3]⟩,
⟨some 13, .faddr 1 3 (.t 1), none, []⟩,
⟨some 14, .load 3 true (.t 13), none, [5]⟩,
⟨some 15, .call 158 [(.t 14)], none, [6, 2]⟩,
⟨some 16, .bin .add (.t 12) (.t 15), none, [4, 7]⟩,
⟨some 4, .mv (.t 16), none, [8, 7, 0, 1, 2, 3, 4, 5, 6, 7, 8]⟩]
def f102.r4 : List IOper := [
⟨some 17, .faddr 4 1 (.t 1), none, []⟩,
⟨some 18, .load 1 false (.t 17), none, []⟩,
⟨some 19, .len .slice (.t 18), none, []⟩,
⟨some 20, .bin .gtr (.t 19) (.c (.d (.int .i64 0))), none, []⟩]
def f102.r5 : List IOper := [
⟨some 21, .mv (.t 4), none, []⟩,
⟨some 22, .faddr 4 1 (.t 1), none, []⟩,
⟨some 23, .load 1 false (.t 22), none, []⟩,
⟨some 24, .call 164 [(.t 23), (.f 165)], none, []⟩,
⟨some 25, .bin .add (.c (.d (.str [32, 119, 104, 101, 114, 101, 32]))) (.t 24), none, []⟩,
⟨some 26, .bin .add (.t 21) (.t 25), none, []⟩,
⟨some 4, .mv (.t 26), none, []⟩]
def f102.r6 : List IOper := [
⟨some 27, .mv (.t 4), none, []⟩,
⟨some 2, .mv (.t 27), none, []⟩,
⟨some 3, .mv (.c (.d (.int .i64 0))), none, []⟩]
def f102 : IFn := ⟨1, 28, [.t 2, .t 3], (.seq (.region f102.r0) (.seq (.seq (.region f102.r1) (.cond (.t 7) (.seq (.region f102.r2) .ret) .skip)) (.seq (.draw f102.r3) (.seq (.seq (.region f102.r4) (.cond (.t 20) (.region f102.r5) .skip)) (.seq (.region f102.r6) .ret)))))⟩
def f124.r0 : List IOper := [
⟨some 1, .box 3 (.t 0), none, []⟩,
⟨some 2, .mv (.c (.d (.bool false))), none, []⟩]
def f124.r1 : List IOper := [
⟨some 3, .load 3 true (.t 1), none, []⟩,
⟨some 4, .call 125 [(.t 3)], none, []⟩,
⟨some 5, .un .not (.t 4), none, []⟩,
⟨some 2, .mv (.t 5), none, []⟩]
def f124 : IFn := ⟨1, 6, [.t 2], (.seq (.region f124.r0) (.seq (.region f124.r1) .ret))⟩
def f125.r0 : List IOper := [
⟨some 1, .box 3 (.t 0), none, []⟩,
⟨some 2, .mv (.c (.d (.bool false))), none, []⟩]
def f125.r1 : List IOper := [
⟨some 3, .faddr 0 1 (.t 1), none, []⟩,
⟨some 4, .load 1 false (.t 3), none, []⟩,
⟨some 5, .bin .eql (.t 4) (.c (.d (.str [105, 110, 116]))), none, []⟩,
⟨some 6, .mv (.t 5), none, []⟩,
⟨some 7, .faddr 0 1 (.t 1), some (6, false), []⟩,
⟨some 8, .load 1 false (.t 7), some (6, false), []⟩,
⟨some 9, .bin .eql (.t 8) (.c (.d (.str [98, 111, 111, 108]))), some (6, false), []⟩,
⟨some 10, .pick (.t 6) (.c (.d (.bool true))) (.t 9), none, []⟩,
⟨some 11, .mv (.t 10), none, []⟩,
⟨some 12, .faddr 0 1 (.t 1), some (11, false), []⟩,
⟨some 13, .load 1 false (.t 12), some (11, false), []⟩,
⟨some 14, .call 132 [(.t 13)], some (11, false), []⟩,
⟨some 15, .pick (.t 11) (.c (.d (.bool true))) (.t 14), none, []⟩,
⟨some 16, .mv (.t 15), none, []⟩,
⟨some 17, .faddr 1 2 (.t 1), some (16, true), []⟩,
⟨some 18, .load 2 true (.t 17), some (16, true), []⟩,
⟨some 19, .call 175 [(.t 18)], some (16, true), []⟩,
⟨some 20, .pick (.t 16) (.t 19) (.c (.d (.bool false))), none, []⟩,
⟨some 2, .mv (.t 20), none, []⟩]
def f125 : IFn := ⟨1, 21, [.t 2], (.seq (.region f125.r0) (.seq (.region f125.r1) .ret))⟩
def f126.r0 : List IOper := [
⟨some 4, .mv (.c (.d (.bool false))), none, []⟩]
def f126.r1 : List IOper := [
⟨some 5, .mv (.t 0), none, []⟩,
⟨some 6, .mv (.t 1), none, []⟩,
⟨some 7, .call 176 [(.t 5), (.t 6)], none, []⟩,
⟨some 8, .bin .geq (.t 7) (.c (.d (.int .i64 0))), none, []⟩,
⟨some 4, .mv (.t 8), none, []⟩]
def f126 : IFn := ⟨2, 9, [.t 4], (.seq (.region f126.r0) (.seq (.region f126.r1) .ret))⟩
def f127.r0 : List IOper := [
⟨some 4, .mv (.c (.d (.bool false))), none, []⟩]
def f127.r1 : List IOper := [
⟨some 5, .mv (.t 0), none, []⟩,
⟨some 6, .mv (.t 1), none, []⟩,
⟨some 7, .call 177 [(.t 5), (.t 6)], none, []⟩,
⟨some 8, .bin .geq (.t 7) (.c (.d (.int .i64 0))), none, []⟩,
⟨some 4, .mv (.t 8), none, []⟩]
def f127 : IFn := ⟨2, 9, [.t 4], (.seq (.region f127.r0) (.seq (.region f127.r1) .ret))⟩
def f128.r0 : List IOper := [
⟨some 1, .box 2 (.t 0), none, []⟩,
⟨some 2, .mv (.c (.d (.bool false))), none, []⟩]
def f128.r1 : List IOper := [
⟨some 3, .load 2 true (.t 1), none, []⟩,
⟨some 4, .call 48 [(.t 3)], none, []⟩,
⟨some 5, .un .not (.t 4), none, []⟩,
⟨some 2, .mv (.t 5), none, []⟩]
def f128 : IFn := ⟨1, 6, [.t 2], (.seq (.region f128.r0) (.seq (.region f128.r1) .ret))⟩
def f129.r0 : List IOper := [
⟨some 4, .mv (.c (.nils)), none, []⟩]
def f129.r1 : List IOper := [
⟨some 5, .mv (.t 1), none, []⟩,
⟨some 6, .bin .lss (.t 5) (.c (.d (.int .i64 0))), none, []⟩]
def f129.r2 : List IOper := [
⟨some 7, .mkiface 9 (.c (.d (.str [99, 97, 110, 110, 111, 116, 32, 98, 101, 32, 110, 101, 103, 97, 116, 105, 118, 101]))), none, []⟩,
⟨none, .bad, none, []⟩]
def f129.r3 : List IOper := [
⟨some 8, .mv (.t 1), none, []⟩,
⟨some 9, .mv (.t 0), none, []⟩,
⟨some 10, .cap (.t 9), none, []⟩,
⟨some 11, .mv (.t 0), none, []⟩,
⟨some 12, .len .slice (.t 11), none, []⟩,
⟨some 13, .bin .sub (.t 10) (.t 12), none, []⟩,
⟨some 14, .bin .sub (.t 8) (.t 13), none, []⟩,
⟨some 1, .mv (.t 14), none, []⟩]
def f129.r4 : List IOper := [
⟨some 15, .mv (.t 1), none, []⟩,
⟨some 16, .bin .gtr (.t 15) (.c (.d (.int .i64 0))), none, []⟩]
def f129.r5 : List IOper := [
⟨some 17, .mv (.t 0), none, []⟩,
⟨some 18, .mv (.t 0), none, []⟩,
⟨some 19, .cap (.t 18), none, []⟩,
⟨some 20, .lslice 3 (.t 17) none (some (.t 19)), none, []⟩,
⟨some 21, .mv (.t 1), none, []⟩,
⟨some 22, .appendN 3 56 [.d (.str []), .d (.str []), .nils] (.t 20) (.t 21), none, []⟩,
⟨some 23, .mv (.t 0), none, []⟩,
⟨some 24, .len .slice (.t 23), none, []⟩,
⟨some 25, .lslice 3 (.t 22) none (some (.t 24)), none, []⟩,
⟨some 0, .mv (.t 25), none, []⟩]
def f129.r6 : List IOper := [
⟨some 26, .mv (.t 0), none, []⟩,
⟨some 4, .mv (.t 26), none, []⟩]
def f129 : IFn := ⟨2, 27, [.t 4], (.seq (.region f129.r0) (.seq (.seq (.region f129.r1) (.cond (.t 6) (.region f129.r2) .skip)) (.seq (.seq (.region f129.r3) (.seq (.region f129.r4) (.cond (.t 16) (.region f129.r5) .skip))) (.seq (.region f129.r6) .ret))))⟩
def f130.r0 : List IOper := [
⟨some 4, .box 1 (.t 1), none, []⟩,
⟨some 5, .box 1 (.t 2), none, []⟩,
⟨some 6, .mv (.c (.d (.int .i64 0))), none, []⟩]
def f130.r1 : List IOper := [
⟨some 7, .mv (.t 0), none, []⟩,
⟨some 8, .mkfunc 178 [] [(.t 4), (.t 5)], none, []⟩,
⟨some 9, .call 84 [(.t 7), (.t 8)], none, []⟩,
⟨some 6, .mv (.t 9), none, []⟩]
def f130 : IFn := ⟨3, 10, [.t 6], (.seq (.region f130.r0) (.seq (.region f130.r1) .ret))⟩
def f131.r0 : List IOper := [
⟨some 1, .box 2 (.t 0), none, []⟩,
⟨some 2, .mv (.c (.nils)), none, []⟩]
def f131.r1 : List IOper := [
⟨some 8, .load 2 true (.t 1), none, []⟩,
⟨some 9, .call 175 [(.t 8)], none, []⟩,
⟨some 10, .un .not (.t 9), none, []⟩]
def f131.r2 : List IOper := [
⟨some 2, .mv (.c (.nils)), none, []⟩]
def f131.r3 : List IOper := [
⟨some 3, .mv (.c (.nils)), none, []⟩]
def f131.r4 : List IOper := [
⟨some 11, .faddr 0 1 (.t 1), none, []⟩,
⟨some 12, .load 1 false (.t 11), none, []⟩,
⟨some 13, .bin .neq (.t 12) (.c (.d (.str []))), none, []⟩]
def f131.r5 : List IOper := [
⟨some 14, .mv (.t 3), none, []⟩,
⟨some 15, .faddr 0 1 (.t 1), none, []⟩,
⟨some 16, .load 1 false (.t 15), none, []⟩,
⟨some 17, .build [.d (.int .i64 0), .d (.str []), .d (.int .i64 0), .nils, .d (.str []), .nils, .d (.str [])] [(0, 1, (.c (.d (.int .i64 2)))), (1, 1, (.t 16))], none, []⟩,
⟨some 18, .mkSlice 7 1 [.d (.int .i64 0), .d (.str []), .d (.int .i64 0), .nils, .d (.str []), .nils, .d (.str [])] [(0, 7, (.t 17))], none, []⟩,
⟨some 19, .append 7 112 (.t 14) (.t 18), none, []⟩,
⟨some 3, .mv (.t 19), none, []⟩]
def f131.r6 : List IOper := [
⟨some 20, .faddr 1 1 (.t 1), none, []⟩,
⟨some 21, .load 1 false (.t 20), none, []⟩,
⟨some 22, .len .slice (.t 21), none, []⟩,
⟨some 23, .mv (.c (.d (.int .i64 0))), none, []⟩]
def f131.r7 : List IOper := [
⟨some 24, .bin .lss (.t 23) (.t 22), none, []⟩]
def f131.r8 : List IOper := [
⟨some 25, .iaddr 2 (.t 21) (.t 23), none, []⟩,
⟨some 26, .load 2 true (.t 25), none, []⟩,
⟨some 5, .alloc [.d (.int .i64 0), .nils], none, []⟩,
⟨none, .store 2 (.t 5) (.t 26), none, []⟩]
def f131.r9 : List IOper := [
⟨some 27, .load 2 true (.t 5), none, []⟩,
⟨some 28, .call 83 [(.t 27)], none, []⟩,
⟨some 29, .len .slice (.t 28), none, []⟩,
⟨some 30, .mv (.c (.d (.int .i64 0))), none, []⟩]
def f131.r10 : List IOper := [
⟨some 31, .bin .lss (.t 30) (.t 29), none, []⟩]
def f131.r11 : List IOper := [
⟨some 32, .iaddr 1 (.t 28) (.t 30), none, []⟩,
⟨some 33, .load 1 false (.t 32), none, []⟩,
⟨some 7, .mv (.t 33), none, []⟩]
def f131.r12 : List IOper := [
⟨some 34, .mv (.t 3), none, []⟩,
⟨some 35, .mv (.t 7), none, []⟩,
⟨some 36, .call 134 [(.t 34), (.c (.d (.int .i64 1))), (.t 35)], none, []⟩,
⟨some 37, .bin .lss (.t 36) (.c (.d (.int .i64 0))), none, []⟩]
def f131.r13 : List IOper := [
⟨some 38, .mv (.t 3), none, []⟩,
⟨some 39, .mv (.t 7), none, []⟩,
⟨some 40, .build [.d (.int .i64 0), .d (.str []), .d (.int .i64 0), .nils, .d (.str []), .nils, .d (.str [])] [(0, 1, (.c (.d (.int .i64 1)))), (1, 1, (.t 39))], none, []⟩,
⟨some 41, .mkSlice 7 1 [.d (.int .i64 0), .d (.str []), .d (.int .i64 0), .nils, .d (.str []), .nils, .d (.str [])] [(0, 7, (.t 40))], none, []⟩,
⟨some 42, .append 7 112 (.t 38) (.t 41), none, []⟩,
⟨some 3, .mv (.t 42), none, []⟩]
def f131.r14 : List IOper := [
⟨some 43, .bin .add (.t 30) (.c (.d (.int .i64 1))), none, []⟩,
⟨some 30, .mv (.t 43), none, []⟩]
def f131.l15 : IR := (.seq (.region f131.r10) (.seq (.cond (.t 31) .skip (.exit 2)) (.seq (.block 3 (.seq (.region f131.r11) (.seq (.region f131.r12) (.cond (.t 37) (.region f131.r13) .skip)))) (.region f131.r14))))
def f131.r16 : List IOper := [
⟨some 44, .bin .add (.t 23) (.c (.d (.int .i64 1))), none, []⟩,
⟨some 23, .mv (.t 44), none, []⟩]
def f131.l17 : IR := (.seq (.region f131.r7) (.seq (.cond (.t 24) .skip (.exit 0)) (.seq (.block 1 (.seq (.region f131.r8) (.seq (.region f131.r9) (.block 2 (.loop f131.l15))))) (.region f131.r16))))
def f131.r18 : List IOper := [
⟨some 45, .mv (.t 3), none, []⟩,
⟨some 2, .mv (.t 45), none, []⟩]
def f131 : IFn := ⟨1, 46, [.t 2], (.seq (.region f131.r0) (.seq (.seq (.region f131.r1) (.cond (.t 10) (.seq (.region f131.r2) .ret) .skip)) (.seq (.region f131.r3) (.seq (.seq (.region f131.r4) (.cond (.t 13) (.region f131.r5) .skip)) (.seq (.seq (.region f131.r6) (.block 0 (.loop f131.l17))) (.seq (.region f131.r18) .ret))))))⟩
def f132.r0 : List IOper := [
⟨some 2, .mv (.c (.d (.bool false))), none, []⟩]
def f132.r1 : List IOper := [
⟨some 3, .mv (.t 0), none, []⟩,
⟨some 4, .len .str (.t 3), none, []⟩,
⟨some 5, .bin .lss (.t 4) (.c (.d (.int .i64 1))), none, []⟩,
⟨some 6, .mv (.t 5), none, []⟩,
⟨some 7, .mv (.t 0), some (6, false), []⟩,
⟨some 8, .len .str (.t 7), some (6, false), []⟩,
⟨some 9, .bin .gtr (.t 8) (.c (.d (.int .i64 30))), some (6, false), []⟩,
⟨some 10, .pick (.t 6) (.c (.d (.bool true))) (.t 9), none, []⟩,
⟨some 11, .mv (.t 10), none, []⟩,
⟨some 12, .mv (.t 0), some (11, false), []⟩,
⟨some 13, .idxS (.t 12) (.c (.d (.int .i64 0))), some (11, false), []⟩,
⟨some 14, .bin .lss (.t 13) (.c (.d (.int .u8 65))), some (11, false), []⟩,
⟨some 15, .pick (.t 11) (.c (.d (.bool true))) (.t 14), none, []⟩,
⟨some 16, .mv (.t 15), none, []⟩,
⟨some 17, .mv (.t 0), some (16, false), []⟩,
⟨some 18, .idxS (.t 17) (.c (.d (.int .i64 0))), some (16, false), []⟩,
⟨some 19, .bin .gtr (.t 18) (.c (.d (.int .u8 90))), some (16, false), []⟩,
⟨some 20, .pick (.t 16) (.c (.d (.bool true))) (.t 19), none, []⟩]
def f132.r2 : List IOper := [
⟨some 2, .mv (.c (.d (.bool false))), none, []⟩]
def f132.r3 : List IOper := [
⟨some 21, .mv (.t 0), none, []⟩,
⟨some 22, .sslice (.t 21) (some (.c (.d (.int .i64 1)))) none, none, []⟩,
⟨some 23, .call 179 [(.t 22), (.c (.d (.str [48, 49, 50, 51, 52, 53, 54, 55, 56, 57])))], none, []⟩,
⟨some 24, .bin .eql (.t 23) (.c (.d (.str []))), none, []⟩,
⟨some 2, .mv (.t 24), none, []⟩]
def f132 : IFn := ⟨1, 25, [.t 2], (.seq (.region f132.r0) (.seq (.seq (.region f132.r1) (.cond (.t 20) (.seq (.region f132.r2) .ret) .skip)) (.seq (.region f132.r3) .ret)))⟩
def f133.r0 : List IOper := [
⟨some 1, .box 7 (.t 0), none, []⟩,
⟨some 2, .mv (.c (.d (.bool false))), none, []⟩]
def f133.r1 : List IOper := [
⟨some 5, .faddr 2 2 (.t 1), none, []⟩,
⟨some 6, .faddr 0 1 (.t 5), none, []⟩,
⟨some 7, .load 1 false (.t 6), none, []⟩,
⟨some 8, .bin .eql (.t 7) (.c (.d (.int .i64 0))), none, []⟩,
⟨some 9, .mv (.t 8), none, []⟩,
⟨some 10, .faddr 2 2 (.t 1), some (9, true), []⟩,
⟨some 11, .faddr 1 1 (.t 10), some (9, true), []⟩,
⟨some 12, .load 1 false (.t 11), some (9, true), []⟩,
⟨some 13, .len .slice (.t 12), some (9, true), []⟩,
⟨some 14, .bin .eql (.t 13) (.c (.d (.int .i64 0))), some (9, true), []⟩,
⟨some 15, .pick (.t 9) (.t 14) (.c (.d (.bool false))), none, []⟩,
⟨some 3, .mv (.t 15), none, []⟩]
def f133.r2 : List IOper := [
⟨some 16, .faddr 4 2 (.t 1), none, []⟩,
⟨some 17, .faddr 0 1 (.t 16), none, []⟩,
⟨some 18, .load 1 false (.t 17), none, []⟩,
⟨some 19, .bin .eql (.t 18) (.c (.d (.str []))), none, []⟩,
⟨some 20, .mv (.t 19), none, []⟩,
⟨some 21, .faddr 4 2 (.t 1), some (20, true), []⟩,
⟨some 22, .faddr 1 1 (.t 21), some (20, true), []⟩,
⟨some 23, .load 1 false (.t 22), some (20, true), []⟩,
⟨some 24, .len .slice (.t 23), some (20, true), []⟩,
⟨some 25, .bin .eql (.t 24) (.c (.d (.int .i64 0))), some (20, true), []⟩,
⟨some 26, .pick (.t 20) (.t 25) (.c (.d (.bool false))), none, []⟩,
⟨some 4, .mv (.t 26), none, []⟩]
def f133.r3 : List IOper := [
⟨some 27, .faddr 0 1 (.t 1), none, []⟩,
⟨some 28, .load 1 false (.t 27), none, []⟩]
def f133.r4 : List IOper := [
⟨some 30, .bin .eql (.t 28) (.c (.d (.int .i64 1))), none, []⟩,
⟨some 29, .mv (.t 30), none, []⟩]
def f133.r5 : List IOper := [
⟨some 31, .faddr 1 1 (.t 1), none, []⟩,
⟨some 32, .load 1 false (.t 31), none, []⟩,
⟨some 33, .call 77 [(.t 32)], none, []⟩,
⟨some 34, .mv (.t 33), none, []⟩,
⟨some 35, .faddr 2 2 (.t 1), some (34, true), []⟩,
⟨some 36, .load 2 true (.t 35), some (34, true), []⟩,
⟨some 37, .call 48 [(.t 36)], some (34, true), []⟩,
⟨some 38, .pick (.t 34) (.t 37) (.c (.d (.bool false))), none, []⟩,
⟨some 39, .mv (.t 38), none, []⟩,
⟨some 40, .mv (.t 4), some (39, true), []⟩,
⟨some 41, .pick (.t 39) (.t 40) (.c (.d (.bool false))), none, []⟩,
⟨some 42, .mv (.t 41), none, []⟩,
⟨some 43, .faddr 6 1 (.t 1), some (42, true), []⟩,
⟨some 44, .load 1 false (.t 43), some (42, true), []⟩,
⟨some 45, .bin .eql (.t 44) (.c (.d (.str []))), some (42, true), []⟩,
⟨some 46, .pick (.t 42) (.t 45) (.c (.d (.bool false))), none, []⟩,
⟨some 2, .mv (.t 46), none, []⟩]
def f133.r6 : List IOper := [
⟨some 48, .bin .eql (.t 28) (.c (.d (.int .i64 2))), none, []⟩,
⟨some 47, .mv (.t 48), none, []⟩]
def f133.r7 : List IOper := [
⟨some 49, .faddr 1 1 (.t 1), none, []⟩,
⟨some 50, .load 1 false (.t 49), none, []⟩,
⟨some 51, .call 77 [(.t 50)], none, []⟩,
⟨some 52, .mv (.t 51), none, []⟩,
⟨some 53, .faddr 4 2 (.t 1), some (52, true), []⟩,
⟨some 54, .load 2 true (.t 53), some (52, true), []⟩,
⟨some 55, .call 175 [(.t 54)], some (52, true), []⟩,
⟨some 56, .pick (.t 52) (.t 55) (.c (.d (.bool false))), none, []⟩,
⟨some 57, .mv (.t 56), none, []⟩,
⟨some 58, .mv (.t 3), some (57, true), []⟩,
⟨some 59, .pick (.t 57) (.t 58) (.c (.d (.bool false))), none, []⟩,
⟨some 60, .mv (.t 59), none, []⟩,
⟨some 61, .faddr 6 1 (.t 1), some (60, true), []⟩,
⟨some 62, .load 1 false (.t 61), some (60, true), []⟩,
⟨some 63, .bin .eql (.t 62) (.c (.d (.str []))), some (60, true), []⟩,
⟨some 64, .pick (.t 60) (.t 63) (.c (.d (.bool false))), none, []⟩,
⟨some 2, .mv (.t 64), none, []⟩]
def f133.r8 : List IOper := [
⟨some 66, .bin .eql (.t 28) (.c (.d (.int .i64 3))), none, []⟩,
⟨some 65, .mv (.t 66), none, []⟩]
def f133.r9 : List IOper := [
⟨some 67, .faddr 1 1 (.t 1), none, []⟩,
⟨some 68, .load 1 false (.t 67), none, []⟩,
⟨some 69, .call 132 [(.t 68)], none, []⟩,
⟨some 70, .mv (.t 69), none, []⟩,
⟨some 71, .faddr 6 1 (.t 1), some (70, true), []⟩,
⟨some 72, .load 1 false (.t 71), some (70, true), []⟩,
⟨some 73, .bin .eql (.t 72) (.c (.d (.str [105, 110, 116]))), some (70, true), []⟩,
⟨some 74, .mv (.t 73), some (70, true), []⟩,
⟨some 75, .faddr 6 1 (.t 1), some (74, false), []⟩,
⟨some 76, .load 1 false (.t 75), some (74, false), []⟩,
⟨some 77, .bin .eql (.t 76) (.c (.d (.str [98, 111, 111, 108]))), some (74, false), []⟩,
⟨some 78, .pick (.t 74) (.c (.d (.bool true))) (.t 77), some (70, true), []⟩,
⟨some 79, .mv (.t 78), some (70, true), []⟩,
⟨some 80, .faddr 6 1 (.t 1), some (79, false), []⟩,
⟨some 81, .load 1 false (.t 80), some (79, false), []⟩,
⟨some 82, .call 132 [(.t 81)], some (79, false), []⟩,
⟨some 83, .pick (.t 79) (.c (.d (.bool true))) (.t 82), some (70, true), []⟩,
⟨some 84, .pick (.t 70) (.t 83) (.c (.d (.bool false))), none, []⟩,
⟨some 85, .mv (.t 84), none, []⟩,
⟨some 86, .mv (.t 3), some (85, true), []⟩,
⟨some 87, .pick (.t 85) (.t 86) (.c (.d (.bool false))), none, []⟩,
⟨some 88, .mv (.t 87), none, []⟩,
⟨some 89, .mv (.t 4), some (88, true), []⟩,
⟨some 90, .pick (.t 88) (.t 89) (.c (.d (.bool false))), none, []⟩,
⟨some 2, .mv (.t 90), none, []⟩]
def f133.r10 : List IOper := [
⟨some 2, .mv (.c (.d (.bool false))), none, []⟩]
def f133 : IFn := ⟨1, 91, [.t 2], (.seq (.region f133.r0) (.seq (.region f133.r1) (.seq (.region f133.r2) (.seq (.seq (.region f133.r3) (.block 0 (.seq (.region f133.r4) (.cond (.t 29) (.seq (.region f133.r5) .ret) (.seq (.region f133.r6) (.cond (.t 47) (.seq (.region f133.r7) .ret) (.seq (.region f133.r8) (.cond (.t 65) (.seq (.region f133.r9) .ret) .skip)))))))) (.seq (.region f133.r10) .ret)))))⟩
def f134.r0 : List IOper := [
⟨some 4, .box 1 (.t 1), none, []⟩,
⟨some 5, .box 1 (.t 2), none, []⟩,
⟨some 6, .mv (.c (.d (.int .i64 0))), none, []⟩]
def f134.r1 : List IOper := [
⟨some 7, .mv (.t 0), none, []⟩,
⟨some 8, .mkfunc 180 [] [(.t 4), (.t 5)], none, []⟩,
⟨some 9, .call 84 [(.t 7), (.t 8)], none, []⟩,
⟨some 6, .mv (.t 9), none, []⟩]
def f134 : IFn := ⟨3, 10, [.t 6], (.seq (.region f134.r0) (.seq (.region f134.r1) .ret))⟩
def f135.r0 : List IOper := [
⟨some 2, .box 2 (.t 0), none, []⟩,
⟨some 4, .alloc [.d (.str []), .nils], none, []⟩,
⟨some 5, .mv (.c (.d (.int .i64 0))), none, []⟩]
def f135.r1 : List IOper := [
⟨some 13, .load 2 true (.t 2), none, []⟩,
⟨some 14, .call 175 [(.t 13)], none, []⟩,
⟨some 15, .un .not (.t 14), none, []⟩,
⟨some 16, .mv (.t 15), none, []⟩,
⟨some 17, .mv (.t 1), some (16, false), []⟩,
⟨some 18, .call 85 [(.t 17)], some (16, false), []⟩,
⟨some 19, .un .not (.t 18), some (16, false), []⟩,
⟨some 20, .pick (.t 16) (.c (.d (.bool true))) (.t 19), none, []⟩]
def f135.r2 : List IOper := [
⟨some 21, .build [.d (.str []), .nils] [], none, []⟩,
⟨none, .store 2 (.t 4) (.t 21), none, []⟩,
⟨some 5, .mv (.c (.d (.int .i64 1))), none, []⟩]
def f135.r3 : List IOper := [
⟨some 22, .faddr 0 1 (.t 2), none, []⟩,
⟨some 23, .load 1 false (.t 22), none, []⟩,
⟨some 6, .mv (.t 23), none, []⟩]
def f135.r4 : List IOper := [
⟨some 7, .mv (.c (.nils)), none, []⟩]
def f135.r5 : List IOper := [
⟨some 24, .mv (.t 1), none, []⟩,
⟨some 25, .faddr 0 1 (.t 2), none, []⟩,
⟨some 26, .load 1 false (.t 25), none, []⟩,
⟨some 27, .call 134 [(.t 24), (.c (.d (.int .i64 2))), (.t 26)], none, []⟩,
⟨some 8, .mv (.t 27), none, []⟩]
def f135.r6 : List IOper := [
⟨some 28, .faddr 0 1 (.t 2), none, []⟩,
⟨some 29, .load 1 false (.t 28), none, []⟩,
⟨some 30, .bin .neq (.t 29) (.c (.d (.str []))), none, []⟩,
⟨some 31, .mv (.t 30), none, []⟩,
⟨some 32, .mv (.t 8), some (31, true), []⟩,
⟨some 33, .bin .geq (.t 32) (.c (.d (.int .i64 0))), some (31, true), []⟩,
⟨some 34, .pick (.t 31) (.t 33) (.c (.d (.bool false))), none, []⟩]
def f135.r7 : List IOper := [
⟨some 35, .mv (.t 1), none, []⟩,
⟨some 36, .mv (.t 8), none, []⟩,
⟨some 37, .iaddr 7 (.t 35) (.t 36), none, [0, 1]⟩,
⟨some 38, .faddr 4 2 (.t 37), none, [2]⟩,
⟨some 39, .faddr 0 1 (.t 38), none, [3]⟩,
⟨some 40, .load 1 false (.t 39), none, [4]⟩,
⟨some 41, .mv (.t 1), none, []⟩,
⟨some 42, .mv (.t 8), none, []⟩,
⟨some 43, .iaddr 7 (.t 41) (.t 42), none, [6, 7]⟩,
⟨some 44, .faddr 4 2 (.t 43), none, [8]⟩,
⟨some 45, .faddr 1 1 (.t 44), none, [9]⟩,
⟨some 46, .load 1 false (.t 45), none, [10]⟩,
⟨some 47, .call 181 [(.t 46)], none, [11]⟩,
⟨some 6, .mv (.t 40), none, [5, 12, 0, 1, 2, 3, 4, 5]⟩,
⟨some 7, .mv (.t 47), none, [12, 13, 0, 1, 2, 3, 4, 5, 6, 7, 8, 9, 10, 11, 12, 13]⟩]
def f135.r8 : List IOper := [
⟨some 48, .faddr 1 1 (.t 2), none, []⟩,
⟨some 49, .load 1 false (.t 48), none, []⟩,
⟨some 50, .len .slice (.t 49), none, []⟩,
⟨some 51, .mv (.c (.d (.int .i64 0))), none, []⟩]
def f135.r9 : List IOper := [
⟨some 52, .bin .lss (.t 51) (.t 50), none, []⟩]
def f135.r10 : List IOper := [
⟨some 53, .iaddr 2 (.t 49) (.t 51), none, []⟩,
⟨some 54, .load 2 true (.t 53), none, []⟩,
⟨some 10, .alloc [.d (.int .i64 0), .nils], none, []⟩,
⟨none, .store 2 (.t 10) (.t 54), none, []⟩]
def f135.r11 : List IOper := [
⟨some 56, .load 2 true (.t 10), none, []⟩,
⟨some 57, .mv (.t 1), none, []⟩,
⟨some 58, .call 87 [(.t 56), (.t 57)], none, []⟩,
⟨some 55, .mv (.t 58), none, []⟩,
⟨some 59, .ext (.t 55) 0, none, []⟩,
⟨some 60, .ext (.t 55) 1, none, []⟩,
⟨some 11, .alloc [.d (.int .i64 0), .nils], none, []⟩,
⟨none, .store 2 (.t 11) (.t 59), none, []⟩,
⟨some 12, .mv (.t 60), none, []⟩]
def f135.r12 : List IOper := [
⟨some 61, .mv (.t 12), none, []⟩,
⟨some 62, .bin .neq (.t 61) (.c (.d (.int .i64 0))), none, []⟩]
def f135.r13 : List IOper := [
⟨some 63, .build [.d (.str []), .nils] [], none, []⟩,
⟨some 64, .mv (.t 12), none, []⟩,
⟨none, .store 2 (.t 4) (.t 63), none, []⟩,
⟨some 5, .mv (.t 64), none, []⟩]
def f135.r14 : List IOper := [
⟨some 65, .mv (.t 7), none, []⟩,
⟨some 66, .load 2 true (.t 11), none, []⟩,
⟨some 67, .mkSlice 2 1 [.d (.int .i64 0), .nils] [(0, 2, (.t 66))], none, []⟩,
⟨some 68, .append 2 32 (.t 65) (.t 67), none, []⟩,
⟨some 7, .mv (.t 68), none, []⟩]
def f135.r15 : List IOper := [
⟨some 69, .bin .add (.t 51) (.c (.d (.int .i64 1))), none, []⟩,
⟨some 51, .mv (.t 69), none, []⟩]
def f135.l16 : IR := (.seq (.region f135.r9) (.seq (.cond (.t 52) .skip (.exit 0)) (.seq (.block 1 (.seq (.region f135.r10) (.seq (.region f135.r11) (.seq (.seq (.region f135.r12) (.cond (.t 62) (.seq (.region f135.r13) .ret) .skip)) (.region f135.r14))))) (.region f135.r15))))
def f135.r17 : List IOper := [
⟨some 70, .mv (.t 6), none, []⟩,
⟨some 71, .mv (.t 7), none, []⟩,
⟨some 72, .call 182 [(.t 70), (.t 71)], none, []⟩,
⟨some 73, .ext (.t 72) 0, none, []⟩,
⟨some 74, .ext (.t 72) 1, none, []⟩,
⟨none, .store 2 (.t 4) (.t 73), none, []⟩,
⟨some 5, .mv (.t 74), none, []⟩]
def f135 : IFn := ⟨2, 75, [.cell 4 2 true, .t 5], (.seq (.region f135.r0) (.seq (.seq (.region f135.r1) (.cond (.t 20) (.seq (.region f135.r2) .ret) .skip)) (.seq (.region f135.r3) (.seq (.region f135.r4) (.seq (.seq (.region f135.r5) (.seq (.region f135.r6) (.cond (.t 34) (.draw f135.r7) .skip))) (.seq (.seq (.region f135.r8) (.block 0 (.loop f135.l16))) (.seq (.region f135.r17) .ret)))))))⟩
def f136.r0 : List IOper := [
⟨some 2, .box 7 (.t 0), none, []⟩,
⟨some 3, .mv (.c (.d (.bool false))), none, []⟩]
def f136.r1 : List IOper := [
⟨some 4, .faddr 0 1 (.t 2), none, []⟩,
⟨some 5, .load 1 false (.t 4), none, []⟩,
⟨some 6, .bin .eql (.t 5) (.c (.d (.int .i64 1))), none, []⟩,
⟨some 7, .mv (.t 6), none, []⟩,
⟨some 8, .faddr 1 1 (.t 2), some (7, true), []⟩,
⟨some 9, .load 1 false (.t 8), some (7, true), []⟩,
⟨some 10, .faddr 0 1 (.t 1), some (7, true), []⟩,
⟨some 11, .load 1 false (.t 10), some (7, true), []⟩,
⟨some 12, .bin .eql (.t 9) (.t 11), some (7, true), []⟩,
⟨some 13, .pick (.t 7) (.t 12) (.c (.d (.bool false))), none, []⟩,
⟨some 3, .mv (.t 13), none, []⟩]
def f136 : IFn := ⟨2, 14, [.t 3], (.seq (.region f136.r0) (.seq (.region f136.r1) .ret))⟩
def f137.r0 : List IOper := [
⟨some 4, .box 2 (.t 1), none, []⟩]
def f137.r1 : List IOper := [
⟨some 8, .mv (.t 0), none, []⟩,
⟨some 9, .nilchk (.t 8), none, [0]⟩,
⟨some 10, .faddr 0 1 (.t 9), none, [1]⟩,
⟨some 11, .load 1 false (.t 10), none, [2]⟩,
⟨some 12, .mv (.t 2), none, []⟩,
⟨some 13, .faddr 0 1 (.t 4), none, []⟩,
⟨some 14, .load 1 false (.t 13), none, [5]⟩,
⟨some 15, .bin .mul (.t 12) (.t 14), none, [4, 6]⟩,
⟨some 16, .bin .add (.t 11) (.t 15), none, [3, 7]⟩,
⟨some 17, .nilchk (.t 8), none, [0, 0, 1, 2, 3, 4, 5, 6, 7, 8]⟩,
⟨some 18, .faddr 0 1 (.t 17), none, [9, 0, 1, 2, 3, 4, 5, 6, 7, 8]⟩,
⟨none, .store 1 (.t 18) (.t 16), none, [10, 8, 0, 1, 2, 3, 4, 5, 6, 7, 8]⟩]
def f137.r2 : List IOper := [
⟨some 19, .faddr 1 1 (.t 4), none, []⟩,
⟨some 20, .load 1 false (.t 19), none, []⟩,
⟨some 21, .len .slice (.t 20), none, []⟩,
⟨some 22, .mv (.c (.d (.int .i64 0))), none, []⟩]
def f137.r3 : List IOper := [
⟨some 23, .bin .lss (.t 22) (.t 21), none, []⟩]
def f137.r4 : List IOper := [
⟨some 24, .iaddr 2 (.t 20) (.t 22), none, []⟩,
⟨some 25, .load 2 true (.t 24), none, []⟩,
⟨some 7, .alloc [.d (.str []), .d (.int .i64 0)], none, []⟩,
⟨none, .store 2 (.t 7) (.t 25), none, []⟩]
def f137.r5 : List IOper := [
⟨some 26, .mv (.t 0), none, []⟩,
⟨some 27, .nilchk (.t 26), none, [0]⟩,
⟨some 28, .faddr 1 1 (.t 27), none, [1]⟩,
⟨some 29, .load 1 false (.t 28), none, [2]⟩,
⟨some 30, .faddr 0 1 (.t 7), none, []⟩,
⟨some 31, .load 1 false (.t 30), none, [4]⟩,
⟨some 32, .lookup .str (.d (.int .i64 0)) false (.t 29) (.t 31), none, [3, 5]⟩,
⟨some 33, .mv (.t 2), none, []⟩,
⟨some 34, .faddr 1 1 (.t 7), none, []⟩,
⟨some 35, .load 1 false (.t 34), none, [8]⟩,
⟨some 36, .bin .mul (.t 33) (.t 35), none, [7, 9]⟩,
⟨some 37, .bin .add (.t 32) (.t 36), none, [6, 10]⟩,
⟨none, .mapUpd .str (.t 29) (.t 31) (.t 37), none, [3, 5, 11, 0, 1, 2, 3, 4, 5, 6, 7, 8, 9, 10, 11]⟩]
def f137.r6 : List IOper := [
⟨some 38, .bin .add (.t 22) (.c (.d (.int .i64 1))), none, []⟩,
⟨some 22, .mv (.t 38), none, []⟩]
def f137.l7 : IR := (.seq (.region f137.r3) (.seq (.cond (.t 23) .skip (.exit 0)) (.seq (.block 1 (.seq (.region f137.r4) (.draw f137.r5))) (.region f137.r6))))
def f137 : IFn := ⟨3, 39, [], (.seq (.region f137.r0) (.seq (.draw f137.r1) (.seq (.region f137.r2) (.block 0 (.loop f137.l7)))))⟩
def f138.r0 : List IOper := [
⟨some 2, .alloc [.d (.int .i64 0), .nils], none, []⟩,
⟨some 3, .mv (.c (.d (.int .i64 0))), none, []⟩]
def f138.r1 : List IOper := [
⟨some 10, .mv (.t 0), none, []⟩,
⟨some 11, .nilchk (.t 10), none, []⟩,
⟨some 12, .faddr 0 1 (.t 11), none, []⟩,
⟨some 13, .load 1 false (.t 12), none, []⟩,
⟨some 14, .build [.d (.int .i64 0), .nils] [(0, 1, (.t 13))], none, []⟩,
⟨some 4, .alloc [.d (.int .i64 0), .nils], none, []⟩,
⟨none, .store 2 (.t 4) (.t 14), none, []⟩]
def f138.r2 : List IOper := [
⟨some 5, .mv (.c (.nils)), none, []⟩]
def f138.r3 : List IOper := [
⟨some 15, .mv (.t 0), none, []⟩,
⟨some 16, .nilchk (.t 15), none, []⟩,
⟨some 17, .faddr 1 1 (.t 16), none, []⟩,
⟨some 18, .load 1 false (.t 17), none, []⟩,
⟨some 19, .range true (.t 18), none, []⟩]
def f138.r4 : List IOper := [
⟨some 20, .nextM (.t 19), none, []⟩,
⟨some 21, .ext (.t 20) 0, none, []⟩]
def f138.r5 : List IOper := [
⟨some 22, .entry (.t 19), none, []⟩,
⟨some 23, .ext (.t 22) 0, none, []⟩,
⟨some 24, .ext (.t 22) 1, none, []⟩,
⟨some 6, .mv (.t 23), none, []⟩,
⟨some 7, .mv (.t 24), none, []⟩]
def f138.r6 : List IOper := [
⟨some 25, .mv (.t 7), none, []⟩,
⟨some 26, .bin .neq (.t 25) (.c (.d (.int .i64 0))), none, []⟩]
def f138.r7 : List IOper := [
⟨some 27, .mv (.t 5), none, []⟩,
⟨some 28, .mv (.t 6), none, []⟩,
⟨some 29, .mkSlice 1 1 [.d (.str [])] [(0, 1, (.t 28))], none, []⟩,
⟨some 30, .append 1 16 (.t 27) (.t 29), none, []⟩,
⟨some 5, .mv (.t 30), none, []⟩]
def f138.l8 : IR := (.seq (.region f138.r4) (.seq (.cond (.t 21) .skip (.exit 0)) (.block 1 (.seq (.region f138.r5) (.seq (.region f138.r6) (.cond (.t 26) (.region f138.r7) .skip))))))
def f138.r9 : List IOper := [
⟨some 31, .mv (.t 5), none, []⟩,
⟨some 32, .call 61 [(.t 31)], none, []⟩]
def f138.r10 : List IOper := [
⟨some 33, .mv (.t 5), none, []⟩,
⟨some 34, .len .slice (.t 33), none, []⟩,
⟨some 35, .mv (.c (.d (.int .i64 0))), none, []⟩]
def f138.r11 : List IOper := [
⟨some 36, .bin .lss (.t 35) (.t 34), none, []⟩]
def f138.r12 : List IOper := [
⟨some 37, .iaddr 1 (.t 33) (.t 35), none, []⟩,
⟨some 38, .load 1 false (.t 37), none, []⟩,
⟨some 9, .mv (.t 38), none, []⟩]
def f138.r13 : List IOper := [
⟨some 39, .faddr 1 1 (.t 4), none, []⟩,
⟨some 40, .load 1 false (.t 39), none, [0]⟩,
⟨some 41, .mv (.t 9), none, []⟩,
⟨some 42, .mv (.t 0), none, []⟩,
⟨some 43, .nilchk (.t 42), none, [3]⟩,
⟨some 44, .faddr 1 1 (.t 43), none, [4]⟩,
⟨some 45, .load 1 false (.t 44), none, [5]⟩,
⟨some 46, .mv (.t 9), none, []⟩,
⟨some 47, .lookup .str (.d (.int .i64 0)) false (.t 45) (.t 46), none, [6, 7]⟩,
⟨some 48, .build [.d (.str []), .d (.int .i64 0)] [(0, 1, (.t 41)), (1, 1, (.t 47))], none, [2, 8]⟩,
⟨some 49, .mkSlice 2 1 [.d (.str []), .d (.int .i64 0)] [(0, 2, (.t 48))], none, [9]⟩,
⟨some 50, .append 2 24 (.t 40) (.t 49), none, [1, 10]⟩,
⟨some 51, .faddr 1 1 (.t 4), none, [0, 1, 2, 3, 4, 5, 6, 7, 8, 9, 10, 11]⟩,
⟨none, .store 1 (.t 51) (.t 50), none, [12, 11, 11, 0, 1, 2, 3, 4, 5, 6, 7, 8, 9, 10, 11]⟩]
def f138.r14 : List IOper := [
⟨some 52, .bin .add (.t 35) (.c (.d (.int .i64 1))), none, []⟩,
⟨some 35, .mv (.t 52), none, []⟩]
def f138.l15 : IR := (.seq (.region f138.r11) (.seq (.cond (.t 36) .skip (.exit 2)) (.seq (.block 3 (.seq (.region f138.r12) (.draw f138.r13))) (.region f138.r14))))
def f138.r16 : List IOper := [
⟨some 53, .load 2 true (.t 4), none, []⟩,
⟨some 54, .call 48 [(.t 53)], none, []⟩,
⟨some 55, .un .not (.t 54), none, []⟩]
def f138.r17 : List IOper := [
⟨some 56, .build [.d (.int .i64 0), .nils] [], none, []⟩,
⟨none, .store 2 (.t 2) (.t 56), none, []⟩,
⟨some 3, .mv (.c (.d (.int .i64 3))), none, []⟩]
def f138.r18 : List IOper := [
⟨some 57, .load 2 true (.t 4), none, []⟩,
⟨none, .store 2 (.t 2) (.t 57), none, []⟩,
⟨some 3, .mv (.c (.d (.int .i64 0))), none, []⟩]
def f138 : IFn := ⟨1, 58, [.cell 2 2 true, .t 3], (.seq (.region f138.r0) (.seq (.region f138.r1) (.seq (.region f138.r2) (.seq (.seq (.region f138.r3) (.block 0 (.loop f138.l8))) (.seq (.region f138.r9) (.seq (.seq (.region f138.r10) (.block 2 (.loop f138.l15))) (.seq (.seq (.region f138.r16) (.cond (.t 55) (.seq (.region f138.r17) .ret) .skip)) (.seq (.region f138.r18) .ret))))))))⟩
def f139.r0 : List IOper := [
⟨some 2, .mv (.c (.d (.bool false))), none, []⟩]
def f139.r1 : List IOper := [
⟨some 3, .mv (.t 0), none, []⟩,
⟨some 4, .bin .geq (.t 3) (.c (.d (.int .u8 48))), none, []⟩,
⟨some 5, .mv (.t 4), none, []⟩,
⟨some 6, .mv (.t 0), some (5, true), []⟩,
⟨some 7, .bin .leq (.t 6) (.c (.d (.int .u8 57))), some (5, true), []⟩,
⟨some 8, .pick (.t 5) (.t 7) (.c (.d (.bool false))), none, []⟩,
⟨some 2, .mv (.t 8), none, []⟩]
def f139 : IFn := ⟨1, 9, [.t 2], (.seq (.region f139.r0) (.seq (.region f139.r1) .ret))⟩
def f140.r0 : List IOper := [
⟨some 2, .mv (.c (.d (.bool false))), none, []⟩]
def f140.r1 : List IOper := [
⟨some 3, .mv (.t 0), none, []⟩,
⟨some 4, .bin .geq (.t 3) (.c (.d (.int .u8 97))), none, []⟩,
⟨some 5, .mv (.t 4), none, []⟩,
⟨some 6, .mv (.t 0), some (5, true), []⟩,
⟨some 7, .bin .leq (.t 6) (.c (.d (.int .u8 122))), some (5, true), []⟩,
⟨some 8, .pick (.t 5) (.t 7) (.c (.d (.bool false))), none, []⟩,
⟨some 2, .mv (.t 8), none, []⟩]
def f140 : IFn := ⟨1, 9, [.t 2], (.seq (.region f140.r0) (.seq (.region f140.r1) .ret))⟩
def f142.r0 : List IOper := [
⟨some 8, .mv (.t 1), none, []⟩,
⟨some 9, .bin .add (.t 8) (.c (.d (.int .i64 1))), none, []⟩,
⟨some 6, .mv (.t 9), none, []⟩]
def f142.r1 : List IOper := [
⟨some 10, .mv (.t 6), none, []⟩,
⟨some 11, .mv (.t 2), none, []⟩,
⟨some 12, .bin .lss (.t 10) (.t 11), none, []⟩]
def f142.r2 : List IOper := [
⟨some 15, .mv (.t 6), none, []⟩,
⟨some 7, .mv (.t 15), none, []⟩]
def f142.r3 : List IOper := [
⟨some 16, .mv (.t 7), none, []⟩,
⟨some 17, .mv (.t 1), none, []⟩,
⟨some 18, .bin .gtr (.t 16) (.t 17), none, [0, 1]⟩,
⟨some 19, .mv (.t 18), none, [2]⟩,
⟨some 20, .mv (.t 0), some (19, true), [3]⟩,
⟨some 21, .mv (.t 7), some (19, true), [3]⟩,
⟨some 22, .iaddr 1 (.t 20) (.t 21), some (19, true), [4, 5, 3]⟩,
⟨some 23, .load 1 false (.t 22), some (19, true), [6, 3]⟩,
⟨some 24, .mv (.t 0), some (19, true), [3]⟩,
⟨some 25, .mv (.t 7), some (19, true), [3]⟩,
⟨some 26, .bin .sub (.t 25) (.c (.d (.int .i64 1))), some (19, true), [9, 3]⟩,
⟨some 27, .iaddr 1 (.t 24) (.t 26), some (19, true), [8, 10, 3]⟩,
⟨some 28, .load 1 false (.t 27), some (19, true), [11, 3]⟩,
⟨some 29, .call 148 [(.t 23), (.t 28)], some (19, true), [7, 12, 3, 3]⟩,
⟨some 30, .pick (.t 19) (.t 29) (.c (.d (.bool false))), none, [3, 13]⟩]
def f142.r4 : List IOper := [
⟨some 33, .mv (.t 0), none, []⟩,
⟨some 34, .mv (.t 7), none, []⟩,
⟨some 35, .mv (.t 0), none, []⟩,
⟨some 36, .mv (.t 7), none, []⟩,
⟨some 37, .bin .sub (.t 36) (.c (.d (.int .i64 1))), none, [3]⟩,
⟨some 38, .mv (.t 0), none, []⟩,
⟨some 39, .mv (.t 7), none, []⟩,
⟨some 40, .bin .sub (.t 39) (.c (.d (.int .i64 1))), none, [6]⟩,
⟨some 41, .iaddr 1 (.t 38) (.t 40), none, [5, 7]⟩,
⟨some 42, .load 1 false (.t 41), none, [8]⟩,
⟨some 43, .mv (.t 0), none, []⟩,
⟨some 44, .mv (.t 7), none, []⟩,
⟨some 45, .iaddr 1 (.t 43) (.t 44), none, [10, 11]⟩,
⟨some 46, .load 1 false (.t 45), none, [12]⟩,
⟨some 47, .iaddr 1 (.t 33) (.t 34), none, [0, 1, 0, 1, 5, 6, 7, 8, 9, 13]⟩,
⟨none, .store 1 (.t 47) (.t 42), none, [14, 9, 0, 1, 5, 6, 7, 8, 9, 13]⟩,
⟨some 48, .iaddr 1 (.t 35) (.t 37), none, [2, 4, 0, 1, 2, 3, 4, 5, 6, 7, 8, 9, 10, 11, 12, 13, 14, 15]⟩,
⟨none, .store 1 (.t 48) (.t 46), none, [16, 13, 15, 0, 1, 2, 3, 4, 5, 6, 7, 8, 9, 10, 11, 12, 13, 14, 15]⟩]
def f142.r5 : List IOper := [
⟨some 31, .mv (.t 7), none, []⟩,
⟨some 32, .bin .sub (.t 31) (.c (.d (.int .i64 1))), none, []⟩,
⟨some 7, .mv (.t 32), none, []⟩]
def f142.l6 : IR := (.seq (.seq (.draw f142.r3) (.cond (.t 30) .skip (.exit 2))) (.seq (.block 3 (.draw f142.r4)) (.region f142.r5)))
def f142.r7 : List IOper := [
⟨some 13, .mv (.t 6), none, []⟩,
⟨some 14, .bin .add (.t 13) (.c (.d (.int .i64 1))), none, []⟩,
⟨some 6, .mv (.t 14), none, []⟩]
def f142.l8 : IR := (.seq (.seq (.region f142.r1) (.cond (.t 12) .skip (.exit 0))) (.seq (.block 1 (.seq (.region f142.r2) (.block 2 (.loop f142.l6)))) (.region f142.r7)))
def f142 : IFn := ⟨3, 49, [], (.seq (.region f142.r0) (.block 0 (.loop f142.l8)))⟩
def f152.r0 : List IOper := [
⟨some 2, .mv (.c (.d (.int .i64 0))), none, []⟩]
def f152.r1 : List IOper := [
⟨some 3, .mv (.t 0), none, []⟩,
⟨some 4, .bin .geq (.t 3) (.c (.d (.int .u64 4294967296))), none, []⟩]
def f152.r2 : List IOper := [
⟨some 5, .mv (.t 0), none, []⟩,
⟨some 6, .bin .shr (.t 5) (.c (.d (.int .u64 32))), none, []⟩,
⟨some 0, .mv (.t 6), none, []⟩]
def f152.r3 : List IOper := [
⟨some 2, .mv (.c (.d (.int .i64 32))), none, []⟩]
def f152.r4 : List IOper := [
⟨some 7, .mv (.t 0), none, []⟩,
⟨some 8, .bin .geq (.t 7) (.c (.d (.int .u64 65536))), none, []⟩]
def f152.r5 : List IOper := [
⟨some 9, .mv (.t 0), none, []⟩,
⟨some 10, .bin .shr (.t 9) (.c (.d (.int .u64 16))), none, []⟩,
⟨some 0, .mv (.t 10), none, []⟩]
def f152.r6 : List IOper := [
⟨some 11, .mv (.t 2), none, []⟩,
⟨some 12, .bin .add (.t 11) (.c (.d (.int .i64 16))), none, []⟩,
⟨some 2, .mv (.t 12), none, []⟩]
def f152.r7 : List IOper := [
⟨some 13, .mv (.t 0), none, []⟩,
⟨some 14, .bin .geq (.t 13) (.c (.d (.int .u64 256))), none, []⟩]
def f152.r8 : List IOper := [
⟨some 15, .mv (.t 0), none, []⟩,
⟨some 16, .bin .shr (.t 15) (.c (.d (.int .u64 8))), none, []⟩,
⟨some 0, .mv (.t 16), none, []⟩]
def f152.r9 : List IOper := [
⟨some 17, .mv (.t 2), none, []⟩,
⟨some 18, .bin .add (.t 17) (.c (.d (.int .i64 8))), none, []⟩,
⟨some 2, .mv (.t 18), none, []⟩]
def f152.r10 : List IOper := [
⟨some 19, .mv (.t 2), none, []⟩,
⟨some 20, .mv (.t 0), none, []⟩,
⟨some 21, .conv .u8 (.t 20), none, []⟩,
⟨some 22, .idxS (.c (.d (.str [0, 1, 2, 2, 3, 3, 3, 3, 4, 4, 4, 4, 4, 4, 4, 4, 5, 5, 5, 5, 5, 5, 5, 5, 5, 5, 5, 5, 5, 5, 5, 5, 6, 6, 6, 6, 6, 6, 6, 6, 6, 6, 6, 6, 6, 6, 6, 6, 6, 6, 6, 6, 6, 6, 6, 6, 6, 6, 6, 6, 6, 6, 6, 6, 7, 7, 7, 7, 7, 7, 7, 7, 7, 7, 7, 7, 7, 7, 7, 7, 7, 7, 7, 7, 7, 7, 7, 7, 7, 7, 7, 7, 7, 7, 7, 7, 7, 7, 7, 7, 7, 7, 7, 7, 7, 7, 7, 7, 7, 7, 7, 7, 7, 7, 7, 7, 7, 7, 7, 7, 7, 7, 7, 7, 7, 7, 7, 7, 8, 8, 8, 8, 8, 8, 8, 8, 8, 8, 8, 8, 8, 8, 8, 8, 8, 8, 8, 8, 8, 8, 8, 8, 8, 8, 8, 8, 8, 8, 8, 8, 8, 8, 8, 8, 8, 8, 8, 8, 8, 8, 8, 8, 8, 8, 8, 8, 8, 8, 8, 8, 8, 8, 8, 8, 8, 8, 8, 8, 8, 8, 8, 8, 8, 8, 8, 8, 8, 8, 8, 8, 8, 8, 8, 8, 8, 8, 8, 8, 8, 8, 8, 8, 8, 8, 8, 8, 8, 8, 8, 8, 8, 8, 8, 8, 8, 8, 8, 8, 8, 8, 8, 8, 8, 8, 8, 8, 8, 8, 8, 8, 8, 8, 8, 8, 8, 8, 8, 8, 8, 8, 8, 8, 8, 8, 8, 8]))) (.t 21), none, []⟩,
⟨some 23, .conv .i64 (.t 22), none, []⟩,
⟨some 24, .bin .add (.t 19) (.t 23), none, []⟩,
⟨some 2, .mv (.t 24), none, []⟩]
def f152 : IFn := ⟨1, 25, [.t 2], (.seq (.region f152.r0) (.seq (.seq (.region f152.r1) (.cond (.t 4) (.seq (.region f152.r2) (.region f152.r3)) .skip)) (.seq (.seq (.region f152.r4) (.cond (.t 8) (.seq (.region f152.r5) (.region f152.r6)) .skip)) (.seq (.seq (.region f152.r7) (.cond (.t 14) (.seq (.region f152.r8) (.region f152.r9)) .skip)) (.seq (.region f152.r10) .ret)))))⟩
def f153.r0 : List IOper := [
⟨some 4, .mv (.c (.d (.int .i64 0))), none, []⟩]
def f153.r1 : List IOper := [
⟨some 6, .mv (.t 0), none, []⟩,
⟨some 7, .len .slice (.t 6), none, []⟩,
⟨some 8, .mv (.c (.d (.int .i64 0))), none, []⟩]
def f153.r2 : List IOper := [
⟨some 9, .bin .lss (.t 8) (.t 7), none, []⟩]
def f153.r3 : List IOper := [
⟨some 10, .mv (.t 8), none, []⟩,
⟨some 5, .mv (.t 10), none, []⟩]
def f153.r4 : List IOper := [
⟨some 11, .mv (.t 1), none, []⟩,
⟨some 12, .mv (.t 0), none, []⟩,
⟨some 13, .mv (.t 5), none, []⟩,
⟨some 14, .iaddr 1 (.t 12) (.t 13), none, []⟩,
⟨some 15, .load 1 false (.t 14), none, []⟩,
⟨some 16, .bin .eql (.t 11) (.t 15), none, []⟩]
def f153.r5 : List IOper := [
⟨some 17, .mv (.t 5), none, []⟩,
⟨some 4, .mv (.t 17), none, []⟩]
def f153.r6 : List IOper := [
⟨some 18, .bin .add (.t 8) (.c (.d (.int .i64 1))), none, []⟩,
⟨some 8, .mv (.t 18), none, []⟩]
def f153.l7 : IR := (.seq (.region f153.r2) (.seq (.cond (.t 9) .skip (.exit 0)) (.seq (.block 1 (.seq (.region f153.r3) (.seq (.region f153.r4) (.cond (.t 16) (.seq (.region f153.r5) .ret) .skip)))) (.region f153.r6))))
def f153.r8 : List IOper := [
⟨some 4, .mv (.c (.d (.int .i64 (-1)))), none, []⟩]
def f153 : IFn := ⟨2, 19, [.t 4], (.seq (.region f153.r0) (.seq (.seq (.region f153.r1) (.block 0 (.loop f153.l7))) (.seq (.region f153.r8) .ret)))⟩
def f157.r0 : List IOper := [
⟨some 2, .alloc [.d (.str []), .nils], none, []⟩,
⟨some 3, .mv (.c (.d (.int .i64 0))), none, []⟩]
def f157.r1 : List IOper := [
⟨some 15, .mv (.t 0), none, []⟩,
⟨some 16, .call 97 [(.t 15), (.c (.d (.str [91])))], none, []⟩,
⟨some 14, .mv (.t 16), none, []⟩,
⟨some 17, .ext (.t 14) 0, none, []⟩,
⟨some 18, .ext (.t 14) 1, none, []⟩,
⟨some 4, .mv (.t 17), none, []⟩,
⟨some 5, .mv (.t 18), none, []⟩]
def f157.r2 : List IOper := [
⟨some 20, .mv (.t 4), none, []⟩,
⟨some 21, .call 193 [(.t 20), (.c (.d (.str [93])))], none, []⟩,
⟨some 19, .mv (.t 21), none, []⟩,
⟨some 22, .ext (.t 19) 0, none, []⟩,
⟨some 23, .ext (.t 19) 1, none, []⟩,
⟨some 4, .mv (.t 22), none, []⟩,
⟨some 6, .mv (.t 23), none, []⟩]
def f157.r3 : List IOper := [
⟨some 24, .mv (.t 5), none, []⟩,
⟨some 25, .un .not (.t 24), none, []⟩,
⟨some 26, .mv (.t 25), none, []⟩,
⟨some 27, .mv (.t 6), some (26, false), []⟩,
⟨some 28, .un .not (.t 27), some (26, false), []⟩,
⟨some 29, .pick (.t 26) (.c (.d (.bool true))) (.t 28), none, []⟩]
def f157.r4 : List IOper := [
⟨some 30, .build [.d (.str []), .nils] [], none, []⟩,
⟨none, .store 2 (.t 2) (.t 30), none, []⟩,
⟨some 3, .mv (.c (.d (.int .i64 6))), none, []⟩]
def f157.r5 : List IOper := [
⟨some 7, .alloc [.d (.str []), .nils], none, []⟩]
def f157.r6 : List IOper := [
⟨some 31, .mv (.t 4), none, []⟩,
⟨some 32, .call 100 [(.t 31), (.c (.d (.str [44, 32])))], none, []⟩,
⟨some 33, .len .slice (.t 32), none, []⟩,
⟨some 34, .mv (.c (.d (.int .i64 0))), none, []⟩]
def f157.r7 : List IOper := [
⟨some 35, .bin .lss (.t 34) (.t 33), none, []⟩]
def f157.r8 : List IOper := [
⟨some 36, .mv (.t 34), none, []⟩,
⟨some 37, .iaddr 1 (.t 32) (.t 34), none, []⟩,
⟨some 38, .load 1 false (.t 37), none, []⟩,
⟨some 8, .mv (.t 36), none, []⟩,
⟨some 9, .mv (.t 38), none, []⟩]
def f157.r9 : List IOper := [
⟨some 40, .mv (.t 9), none, []⟩,
⟨some 41, .call 193 [(.t 40), (.c (.d (.str [46, 46])))], none, []⟩,
⟨some 39, .mv (.t 41), none, []⟩,
⟨some 42, .ext (.t 39) 0, none, []⟩,
⟨some 43, .ext (.t 39) 1, none, []⟩,
⟨some 10, .mv (.t 42), none, []⟩,
⟨some 11, .mv (.t 43), none, []⟩]
def f157.r10 : List IOper := [
⟨some 44, .mv (.t 11), none, []⟩,
⟨some 45, .mv (.t 44), none, []⟩,
⟨some 46, .mv (.t 8), some (45, true), []⟩,
⟨some 47, .bin .eql (.t 46) (.c (.d (.int .i64 0))), some (45, true), []⟩,
⟨some 48, .pick (.t 45) (.t 47) (.c (.d (.bool false))), none, []⟩]
def f157.r11 : List IOper := [
⟨some 49, .mv (.t 10), none, []⟩,
⟨some 50, .faddr 0 1 (.t 7), none, []⟩,
⟨none, .store 1 (.t 50) (.t 49), none, []⟩]
def f157.r12 : List IOper := [
⟨some 52, .mv (.t 9), none, []⟩,
⟨some 53, .call 101 [(.t 52)], none, []⟩,
⟨some 51, .mv (.t 53), none, []⟩,
⟨some 54, .ext (.t 51) 0, none, []⟩,
⟨some 55, .ext (.t 51) 1, none, []⟩,
⟨some 12, .alloc [.d (.int .i64 0), .nils], none, []⟩,
⟨none, .store 2 (.t 12) (.t 54), none, []⟩,
⟨some 13, .mv (.t 55), none, []⟩]
def f157.r13 : List IOper := [
⟨some 56, .mv (.t 13), none, []⟩,
⟨some 57, .bin .neq (.t 56) (.c (.d (.int .i64 0))), none, []⟩,
⟨some 58, .mv (.t 57), none, []⟩,
⟨some 59, .mv (.t 4), some (58, true), []⟩,
⟨some 60, .bin .neq (.t 59) (.c (.d (.str []))), some (58, true), []⟩,
⟨some 61, .pick (.t 58) (.t 60) (.c (.d (.bool false))), none, []⟩]
def f157.r14 : List IOper := [
⟨some 62, .build [.d (.str []), .nils] [], none, []⟩,
⟨none, .store 2 (.t 2) (.t 62), none, []⟩,
⟨some 3, .mv (.c (.d (.int .i64 6))), none, []⟩]
def f157.r15 : List IOper := [
⟨some 63, .mv (.t 4), none, []⟩,
⟨some 64, .bin .neq (.t 63) (.c (.d (.str []))), none, []⟩]
def f157.r16 : List IOper := [
⟨some 65, .faddr 1 1 (.t 7), none, []⟩,
⟨some 66, .load 1 false (.t 65), none, []⟩,
⟨some 67, .load 2 true (.t 12), none, []⟩,
⟨some 68, .mkSlice 2 1 [.d (.int .i64 0), .nils] [(0, 2, (.t 67))], none, []⟩,
⟨some 69, .append 2 32 (.t 66) (.t 68), none, []⟩,
⟨some 70, .faddr 1 1 (.t 7), none, []⟩,
⟨none, .store 1 (.t 70) (.t 69), none, []⟩]
def f157.r17 : List IOper := [
⟨some 71, .bin .add (.t 34) (.c (.d (.int .i64 1))), none, []⟩,
⟨some 34, .mv (.t 71), none, []⟩]
def f157.l18 : IR := (.seq (.region f157.r7) (.seq (.cond (.t 35) .skip (.exit 0)) (.seq (.block 1 (.seq (.region f157.r8) (.seq (.seq (.region f157.r9) (.seq (.region f157.r10) (.cond (.t 48) (.seq (.region f157.r11) (.exit 1)) .skip))) (.seq (.region f157.r12) (.seq (.seq (.region f157.r13) (.cond (.t 61) (.seq (.region f157.r14) .ret) .skip)) (.seq (.region f157.r15) (.cond (.t 64) (.region f157.r16) .skip))))))) (.region f157.r17))))
def f157.r19 : List IOper := [
⟨some 72, .load 2 true (.t 7), none, []⟩,
⟨some 73, .call 175 [(.t 72)], none, []⟩,
⟨some 74, .un .not (.t 73), none, []⟩,
⟨some 75, .mv (.t 74), none, []⟩,
⟨some 76, .load 2 true (.t 7), some (75, false), []⟩,
⟨some 77, .call 194 [(.t 76)], some (75, false), []⟩,
⟨some 78, .mv (.t 0), some (75, false), []⟩,
⟨some 79, .bin .neq (.t 77) (.t 78), some (75, false), []⟩,
⟨some 80, .pick (.t 75) (.c (.d (.bool true))) (.t 79), none, []⟩]
def f157.r20 : List IOper := [
⟨some 81, .build [.d (.str []), .nils] [], none, []⟩,
⟨none, .store 2 (.t 2) (.t 81), none, []⟩,
⟨some 3, .mv (.c (.d (.int .i64 6))), none, []⟩]
def f157.r21 : List IOper := [
⟨some 82, .load 2 true (.t 7), none, []⟩,
⟨none, .store 2 (.t 2) (.t 82), none, []⟩,
⟨some 3, .mv (.c (.d (.int .i64 0))), none, []⟩]
def f157 : IFn := ⟨1, 83, [.cell 2 2 true, .t 3], (.seq (.region f157.r0) (.seq (.region f157.r1) (.seq (.region f157.r2) (.seq (.seq (.region f157.r3) (.cond (.t 29) (.seq (.region f157.r4) .ret) .skip)) (.seq (.region f157.r5) (.seq (.seq (.region f157.r6) (.block 0 (.loop f157.l18))) (.seq (.seq (.region f157.r19) (.cond (.t 80) (.seq (.region f157.r20) .ret) .skip)) (.seq (.region f157.r21) .ret))))))))⟩
def f158.r0 : List IOper := [
⟨some 1, .box 3 (.t 0), none, []⟩,
⟨some 2, .mv (.c (.d (.str []))), none, []⟩]
def f158.r1 : List IOper := [
⟨some 6, .faddr 1 2 (.t 1), none, []⟩,
⟨some 7, .load 2 true (.t 6), none, []⟩,
⟨some 8, .call 195 [(.t 7)], none, []⟩,
⟨some 5, .mv (.t 8), none, []⟩,
⟨some 9, .ext (.t 5) 0, none, []⟩,
⟨some 10, .ext (.t 5) 1, none, []⟩,
⟨some 3, .mv (.t 9), none, []⟩,
⟨some 4, .mv (.t 10), none, []⟩]
def f158.r2 : List IOper := [
⟨some 11, .mv (.t 3), none, []⟩,
⟨some 12, .bin .eql (.t 11) (.c (.d (.str [91, 93]))), none, []⟩]
def f158.r3 : List IOper := [
⟨some 13, .faddr 0 1 (.t 1), none, []⟩,
⟨some 14, .load 1 false (.t 13), none, []⟩,
⟨some 2, .mv (.t 14), none, []⟩]
def f158.r4 : List IOper := [
⟨some 15, .mv (.t 3), none, []⟩,
⟨some 16, .faddr 0 1 (.t 1), none, []⟩,
⟨some 17, .load 1 false (.t 16), none, []⟩,
⟨some 18, .bin .add (.t 15) (.t 17), none, []⟩,
⟨some 2, .mv (.t 18), none, []⟩]
def f158 : IFn := ⟨1, 19, [.t 2], (.seq (.region f158.r0) (.seq (.region f158.r1) (.seq (.seq (.region f158.r2) (.cond (.t 12) (.seq (.region f158.r3) .ret) .skip)) (.seq (.region f158.r4) .ret))))⟩

end Fw.X
