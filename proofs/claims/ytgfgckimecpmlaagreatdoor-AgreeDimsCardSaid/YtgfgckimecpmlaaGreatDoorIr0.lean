/- Code of the program's functions, as operations of the abstract machine. -/
import Derived.Test.YtgfgckimecpmlaaGreatDoorFa
namespace Fw.X
open Go
def f8.r0 : List IOper := [
⟨some 4, .mv (.c (.d (.bool false))), none, []⟩]
def f8.r1 : List IOper := [
⟨some 13, .call 12 [], none, []⟩,
⟨some 14, .un .not (.t 13), none, []⟩,
⟨some 15, .mv (.t 14), none, []⟩,
⟨some 16, .mv (.t 0), some (15, false), []⟩,
⟨some 17, .len .slice (.t 16), some (15, false), []⟩,
⟨some 18, .bin .gtr (.t 17) (.c (.d (.int .i64 17))), some (15, false), []⟩,
⟨some 19, .pick (.t 15) (.c (.d (.bool true))) (.t 18), none, []⟩,
⟨some 20, .mv (.t 19), none, []⟩,
⟨some 21, .mv (.t 1), some (20, false), []⟩,
⟨some 22, .len .slice (.t 21), some (20, false), []⟩,
⟨some 23, .bin .gtr (.t 22) (.c (.d (.int .i64 17))), some (20, false), []⟩,
⟨some 24, .pick (.t 20) (.c (.d (.bool true))) (.t 23), none, []⟩]
def f8.r2 : List IOper := [
⟨some 25, .call 12 [], none, []⟩,
⟨some 4, .mv (.t 25), none, []⟩]
def f8.r3 : List IOper := [
⟨some 26, .mv (.t 0), none, []⟩,
⟨some 27, .len .slice (.t 26), none, []⟩,
⟨some 28, .mv (.c (.d (.int .i64 0))), none, []⟩]
def f8.r4 : List IOper := [
⟨some 29, .bin .lss (.t 28) (.t 27), none, []⟩]
def f8.r5 : List IOper := [
⟨some 30, .iaddr 1 (.t 26) (.t 28), none, []⟩,
⟨some 31, .load 1 false (.t 30), none, []⟩,
⟨some 6, .mv (.t 31), none, []⟩]
def f8.r6 : List IOper := [
⟨some 32, .mv (.t 6), none, []⟩,
⟨some 33, .len .slice (.t 32), none, []⟩,
⟨some 34, .bin .gtr (.t 33) (.c (.d (.int .i64 8))), none, []⟩]
def f8.r7 : List IOper := [
⟨some 4, .mv (.c (.d (.bool true))), none, []⟩]
def f8.r8 : List IOper := [
⟨some 35, .bin .add (.t 28) (.c (.d (.int .i64 1))), none, []⟩,
⟨some 28, .mv (.t 35), none, []⟩]
def f8.l9 : IR := (.seq (.region f8.r4) (.seq (.cond (.t 29) .skip (.exit 0)) (.seq (.block 1 (.seq (.region f8.r5) (.seq (.region f8.r6) (.cond (.t 34) (.seq (.region f8.r7) .ret) .skip)))) (.region f8.r8))))
def f8.r10 : List IOper := [
⟨some 37, .mv (.t 0), none, []⟩,
⟨some 38, .mv (.t 1), none, []⟩,
⟨some 39, .call 34 [(.t 37), (.t 38)], none, []⟩,
⟨some 36, .mv (.t 39), none, []⟩,
⟨some 40, .ext (.t 36) 0, none, []⟩,
⟨some 41, .ext (.t 36) 1, none, []⟩,
⟨some 42, .ext (.t 36) 2, none, []⟩,
⟨some 7, .mv (.t 40), none, []⟩,
⟨some 8, .mv (.t 41), none, []⟩,
⟨some 9, .mv (.t 42), none, []⟩]
def f8.r11 : List IOper := [
⟨some 44, .mv (.t 0), none, []⟩,
⟨some 45, .mv (.t 1), none, []⟩,
⟨some 46, .call 35 [(.t 44), (.t 45)], none, []⟩,
⟨some 43, .mv (.t 46), none, []⟩,
⟨some 47, .ext (.t 43) 0, none, []⟩,
⟨some 48, .ext (.t 43) 1, none, []⟩,
⟨some 49, .ext (.t 43) 2, none, []⟩,
⟨some 10, .mv (.t 47), none, []⟩,
⟨some 11, .mv (.t 48), none, []⟩,
⟨some 12, .mv (.t 49), none, []⟩]
def f8.r12 : List IOper := [
⟨some 50, .mv (.t 7), none, []⟩,
⟨some 51, .mv (.t 10), none, []⟩,
⟨some 52, .call 36 [(.t 50), (.t 51)], none, []⟩,
⟨some 53, .mv (.t 52), none, []⟩,
⟨some 54, .mv (.t 8), some (53, true), []⟩,
⟨some 55, .mv (.t 11), some (53, true), []⟩,
⟨some 56, .call 21 [(.t 54), (.t 55)], some (53, true), []⟩,
⟨some 57, .pick (.t 53) (.t 56) (.c (.d (.bool false))), none, []⟩,
⟨some 58, .mv (.t 57), none, []⟩,
⟨some 59, .mv (.t 9), some (58, true), []⟩,
⟨some 60, .mv (.t 12), some (58, true), []⟩,
⟨some 61, .bin .eql (.t 59) (.t 60), some (58, true), []⟩,
⟨some 62, .pick (.t 58) (.t 61) (.c (.d (.bool false))), none, []⟩,
⟨some 4, .mv (.t 62), none, []⟩]
def f8 : IFn := ⟨2, 63, [.t 4], (.seq (.region f8.r0) (.seq (.seq (.region f8.r1) (.cond (.t 24) (.seq (.region f8.r2) .ret) .skip)) (.seq (.seq (.region f8.r3) (.block 0 (.loop f8.l9))) (.seq (.region f8.r10) (.seq (.region f8.r11) (.seq (.region f8.r12) .ret))))))⟩
def f12.r0 : List IOper := [
⟨some 0, .mv (.c (.d (.bool false))), none, []⟩]
def f12.r1 : List IOper := [
⟨some 8, .call 49 [(.c (.d (.str [91, 110, 44, 32, 51, 93, 105, 110, 116]))), (.c (.d (.str [105, 110, 116]))), (.c (.d (.str [91, 110, 44, 32, 51, 93, 105, 110, 116])))], none, []⟩,
⟨some 1, .alloc [.d (.int .i64 0), .d (.int .i64 0), .d (.str []), .d (.str []), .nils, .d (.str []), .d (.str []), .nils, .nils, .nils, .d (.str []), .d (.str []), .nils, .d (.str []), .d (.str []), .nils, .d (.int .i64 0), .nils], none, []⟩,
⟨none, .store 18 (.t 1) (.t 8), none, []⟩]
def f12.r2 : List IOper := [
⟨some 10, .load 18 true (.t 1), none, []⟩,
⟨some 11, .call 14 [(.t 10)], none, []⟩,
⟨some 9, .mv (.t 11), none, []⟩,
⟨some 12, .ext (.t 9) 0, none, []⟩,
⟨some 13, .ext (.t 9) 1, none, []⟩,
⟨some 14, .ext (.t 9) 2, none, []⟩,
⟨some 2, .alloc [.d (.str []), .nils], none, []⟩,
⟨none, .store 2 (.t 2) (.t 12), none, []⟩,
⟨some 3, .mv (.t 13), none, []⟩,
⟨some 4, .mv (.t 14), none, []⟩]
def f12.r3 : List IOper := [
⟨some 16, .call 49 [(.c (.d (.str [91, 110, 93, 105, 110, 116]))), (.c (.d (.str [91, 110, 44, 32, 51, 93, 105, 110, 116]))), (.c (.d (.str [105, 110, 116])))], none, []⟩,
⟨some 17, .call 14 [(.t 16)], none, []⟩,
⟨some 15, .mv (.t 17), none, []⟩,
⟨some 18, .ext (.t 15) 0, none, []⟩,
⟨some 19, .ext (.t 15) 1, none, []⟩,
⟨some 20, .ext (.t 15) 2, none, []⟩,
⟨some 5, .alloc [.d (.str []), .nils], none, []⟩,
⟨none, .store 2 (.t 5) (.t 18), none, []⟩,
⟨some 6, .mv (.t 19), none, []⟩,
⟨some 7, .mv (.t 20), none, []⟩]
def f12.r4 : List IOper := [
⟨some 21, .mv (.t 4), none, []⟩,
⟨some 22, .bin .eql (.t 21) (.c (.d (.int .i64 0))), none, []⟩,
⟨some 23, .mv (.t 22), none, []⟩,
⟨some 24, .mv (.t 7), some (23, true), []⟩,
⟨some 25, .bin .eql (.t 24) (.c (.d (.int .i64 13))), some (23, true), []⟩,
⟨some 26, .pick (.t 23) (.t 25) (.c (.d (.bool false))), none, []⟩,
⟨some 27, .mv (.t 26), none, []⟩,
⟨some 28, .faddr 1 1 (.t 2), some (27, true), []⟩,
⟨some 29, .load 1 false (.t 28), some (27, true), []⟩,
⟨some 30, .len .slice (.t 29), some (27, true), []⟩,
⟨some 31, .bin .eql (.t 30) (.c (.d (.int .i64 2))), some (27, true), []⟩,
⟨some 32, .pick (.t 27) (.t 31) (.c (.d (.bool false))), none, []⟩,
⟨some 33, .mv (.t 32), none, []⟩,
⟨some 34, .mv (.t 3), some (33, true), []⟩,
⟨some 35, .len .slice (.t 34), some (33, true), []⟩,
⟨some 36, .bin .eql (.t 35) (.c (.d (.int .i64 2))), some (33, true), []⟩,
⟨some 37, .pick (.t 33) (.t 36) (.c (.d (.bool false))), none, []⟩,
⟨some 38, .mv (.t 37), none, []⟩,
⟨some 39, .mv (.t 3), some (38, true), []⟩,
⟨some 40, .iaddr 1 (.t 39) (.c (.d (.int .i64 0))), some (38, true), []⟩,
⟨some 41, .load 1 false (.t 40), some (38, true), []⟩,
⟨some 42, .pick (.t 38) (.t 41) (.c (.d (.bool false))), none, []⟩,
⟨some 43, .mv (.t 42), none, []⟩,
⟨some 44, .mv (.t 3), some (43, true), []⟩,
⟨some 45, .iaddr 1 (.t 44) (.c (.d (.int .i64 1))), some (43, true), []⟩,
⟨some 46, .load 1 false (.t 45), some (43, true), []⟩,
⟨some 47, .un .not (.t 46), some (43, true), []⟩,
⟨some 48, .pick (.t 43) (.t 47) (.c (.d (.bool false))), none, []⟩,
⟨some 49, .mv (.t 48), none, []⟩,
⟨some 50, .load 18 true (.t 1), some (49, true), []⟩,
⟨some 51, .load 2 true (.t 2), some (49, true), []⟩,
⟨some 52, .mv (.t 3), some (49, true), []⟩,
⟨some 53, .call 27 [(.t 50), (.t 51), (.t 52)], some (49, true), []⟩,
⟨some 54, .pick (.t 49) (.t 53) (.c (.d (.bool false))), none, []⟩,
⟨some 55, .mv (.t 54), none, []⟩,
⟨some 56, .load 18 true (.t 1), some (55, true), []⟩,
⟨some 57, .call 18 [(.t 56)], some (55, true), []⟩,
⟨some 58, .pick (.t 55) (.t 57) (.c (.d (.bool false))), none, []⟩,
⟨some 0, .mv (.t 58), none, []⟩]
def f12 : IFn := ⟨0, 59, [.t 0], (.seq (.region f12.r0) (.seq (.region f12.r1) (.seq (.region f12.r2) (.seq (.region f12.r3) (.seq (.region f12.r4) .ret)))))⟩
def f14.r0 : List IOper := [
⟨some 1, .box 18 (.t 0), none, []⟩,
⟨some 2, .alloc [.d (.str []), .nils], none, []⟩,
⟨some 3, .mv (.c (.nils)), none, []⟩,
⟨some 4, .mv (.c (.d (.int .i64 0))), none, []⟩]
def f14.r1 : List IOper := [
⟨some 8, .load 18 true (.t 1), none, []⟩,
⟨some 9, .call 18 [(.t 8)], none, []⟩,
⟨some 10, .un .not (.t 9), none, []⟩]
def f14.r2 : List IOper := [
⟨some 11, .build [.d (.str []), .nils] [], none, []⟩,
⟨none, .store 2 (.t 2) (.t 11), none, []⟩,
⟨some 3, .mv (.c (.nils)), none, []⟩,
⟨some 4, .mv (.c (.d (.int .i64 1))), none, []⟩]
def f14.r3 : List IOper := [
⟨some 12, .faddr 8 1 (.t 1), none, []⟩,
⟨some 13, .load 1 false (.t 12), none, []⟩,
⟨some 14, .len .slice (.t 13), none, []⟩,
⟨some 15, .mv (.c (.d (.int .i64 0))), none, []⟩]
def f14.r4 : List IOper := [
⟨some 16, .bin .lss (.t 15) (.t 14), none, []⟩]
def f14.r5 : List IOper := [
⟨some 17, .mv (.t 15), none, []⟩,
⟨some 18, .iaddr 3 (.t 13) (.t 15), none, []⟩,
⟨some 19, .load 3 true (.t 18), none, []⟩,
⟨some 6, .alloc [.d (.str []), .d (.str []), .nils], none, []⟩,
⟨some 5, .mv (.t 17), none, []⟩,
⟨none, .store 3 (.t 6) (.t 19), none, []⟩]
def f14.r6 : List IOper := [
⟨some 20, .faddr 1 2 (.t 6), none, []⟩,
⟨some 21, .faddr 1 1 (.t 20), none, [0]⟩,
⟨some 22, .load 1 false (.t 21), none, [1]⟩,
⟨some 23, .len .slice (.t 22), none, [2]⟩,
⟨some 24, .faddr 9 1 (.t 1), none, []⟩,
⟨some 25, .load 1 false (.t 24), none, [4]⟩,
⟨some 26, .mv (.t 5), none, []⟩,
⟨some 27, .iaddr 3 (.t 25) (.t 26), none, [5, 6]⟩,
⟨some 28, .faddr 1 2 (.t 27), none, [7]⟩,
⟨some 29, .faddr 1 1 (.t 28), none, [8]⟩,
⟨some 30, .load 1 false (.t 29), none, [9]⟩,
⟨some 31, .len .slice (.t 30), none, [10]⟩,
⟨some 32, .bin .sub (.t 23) (.t 31), none, [3, 11]⟩,
⟨some 7, .mv (.t 32), none, [12, 0, 1, 2, 3, 4, 5, 6, 7, 8, 9, 10, 11, 12]⟩]
def f14.r7 : List IOper := [
⟨some 33, .mv (.t 7), none, []⟩,
⟨some 34, .bin .lss (.t 33) (.c (.d (.int .i64 0))), none, []⟩,
⟨some 35, .mv (.t 34), none, []⟩,
⟨some 36, .mv (.t 7), some (35, false), []⟩,
⟨some 37, .bin .gtr (.t 36) (.c (.d (.int .i64 0))), some (35, false), []⟩,
⟨some 38, .mv (.t 37), some (35, false), []⟩,
⟨some 39, .faddr 1 1 (.t 2), some (38, true), []⟩,
⟨some 40, .load 1 false (.t 39), some (38, true), []⟩,
⟨some 41, .len .slice (.t 40), some (38, true), []⟩,
⟨some 42, .bin .gtr (.t 41) (.c (.d (.int .i64 0))), some (38, true), []⟩,
⟨some 43, .pick (.t 38) (.t 42) (.c (.d (.bool false))), some (35, false), []⟩,
⟨some 44, .mv (.t 43), some (35, false), []⟩,
⟨some 45, .mv (.t 7), some (44, true), []⟩,
⟨some 46, .faddr 1 1 (.t 2), some (44, true), []⟩,
⟨some 47, .load 1 false (.t 46), some (44, true), []⟩,
⟨some 48, .len .slice (.t 47), some (44, true), []⟩,
⟨some 49, .bin .neq (.t 45) (.t 48), some (44, true), []⟩,
⟨some 50, .pick (.t 44) (.t 49) (.c (.d (.bool false))), some (35, false), []⟩,
⟨some 51, .pick (.t 35) (.c (.d (.bool true))) (.t 50), none, []⟩]
def f14.r8 : List IOper := [
⟨some 52, .build [.d (.str []), .nils] [], none, []⟩,
⟨none, .store 2 (.t 2) (.t 52), none, []⟩,
⟨some 3, .mv (.c (.nils)), none, []⟩,
⟨some 4, .mv (.c (.d (.int .i64 13))), none, []⟩]
def f14.r9 : List IOper := [
⟨some 53, .mv (.t 7), none, []⟩,
⟨some 54, .bin .gtr (.t 53) (.c (.d (.int .i64 0))), none, []⟩,
⟨some 55, .mv (.t 54), none, []⟩,
⟨some 56, .faddr 1 1 (.t 2), some (55, true), []⟩,
⟨some 57, .load 1 false (.t 56), some (55, true), []⟩,
⟨some 58, .len .slice (.t 57), some (55, true), []⟩,
⟨some 59, .bin .eql (.t 58) (.c (.d (.int .i64 0))), some (55, true), []⟩,
⟨some 60, .pick (.t 55) (.t 59) (.c (.d (.bool false))), none, []⟩]
def f14.r10 : List IOper := [
⟨some 62, .faddr 1 2 (.t 6), none, []⟩,
⟨some 63, .load 2 true (.t 62), none, [0]⟩,
⟨some 64, .faddr 9 1 (.t 1), none, []⟩,
⟨some 65, .load 1 false (.t 64), none, [2]⟩,
⟨some 66, .mv (.t 5), none, []⟩,
⟨some 67, .iaddr 3 (.t 65) (.t 66), none, [3, 4]⟩,
⟨some 68, .faddr 1 2 (.t 67), none, [5]⟩,
⟨some 69, .faddr 1 1 (.t 68), none, [6]⟩,
⟨some 70, .load 1 false (.t 69), none, [7]⟩,
⟨some 71, .len .slice (.t 70), none, [8]⟩,
⟨some 72, .call 50 [(.t 63), (.t 71)], none, [1, 9]⟩,
⟨some 61, .mv (.t 72), none, [10]⟩,
⟨some 73, .ext (.t 61) 0, none, [11]⟩,
⟨some 74, .ext (.t 61) 1, none, [11]⟩,
⟨some 75, .ext (.t 61) 2, none, [11]⟩,
⟨none, .store 2 (.t 2) (.t 73), none, [12, 10, 0, 1, 2, 3, 4, 5, 6, 7, 8, 9, 10, 11, 12]⟩]
def f14.r11 : List IOper := [
⟨some 76, .mv (.t 3), none, []⟩,
⟨some 77, .mv (.t 7), none, []⟩,
⟨some 78, .bin .gtr (.t 77) (.c (.d (.int .i64 0))), none, []⟩,
⟨some 79, .mkSlice 1 1 [.d (.bool false)] [(0, 1, (.t 78))], none, []⟩,
⟨some 80, .append 1 1 (.t 76) (.t 79), none, []⟩,
⟨some 3, .mv (.t 80), none, []⟩]
def f14.r12 : List IOper := [
⟨some 81, .bin .add (.t 15) (.c (.d (.int .i64 1))), none, []⟩,
⟨some 15, .mv (.t 81), none, []⟩]
def f14.l13 : IR := (.seq (.region f14.r4) (.seq (.cond (.t 16) .skip (.exit 0)) (.seq (.block 1 (.seq (.region f14.r5) (.seq (.draw f14.r6) (.seq (.seq (.region f14.r7) (.cond (.t 51) (.seq (.region f14.r8) .ret) .skip)) (.seq (.seq (.region f14.r9) (.cond (.t 60) (.draw f14.r10) .skip)) (.region f14.r11)))))) (.region f14.r12))))
def f14.r14 : List IOper := [
⟨some 82, .load 2 true (.t 2), none, []⟩,
⟨some 83, .mv (.t 3), none, []⟩,
⟨none, .store 2 (.t 2) (.t 82), none, []⟩,
⟨some 3, .mv (.t 83), none, []⟩,
⟨some 4, .mv (.c (.d (.int .i64 0))), none, []⟩]
def f14 : IFn := ⟨1, 84, [.cell 2 2 true, .t 3, .t 4], (.seq (.region f14.r0) (.seq (.seq (.region f14.r1) (.cond (.t 10) (.seq (.region f14.r2) .ret) .skip)) (.seq (.seq (.region f14.r3) (.block 0 (.loop f14.l13))) (.seq (.region f14.r14) .ret))))⟩
def f16.r0 : List IOper := [
⟨some 1, .box 18 (.t 0), none, []⟩,
⟨some 2, .mv (.c (.d (.bool false))), none, []⟩]
def f16.r1 : List IOper := [
⟨some 4, .faddr 0 1 (.t 1), none, []⟩,
⟨some 5, .load 1 false (.t 4), none, []⟩,
⟨some 6, .bin .neq (.t 5) (.c (.d (.int .i64 2))), none, []⟩,
⟨some 7, .mv (.t 6), none, []⟩,
⟨some 8, .faddr 8 1 (.t 1), some (7, false), []⟩,
⟨some 9, .load 1 false (.t 8), some (7, false), []⟩,
⟨some 10, .len .slice (.t 9), some (7, false), []⟩,
⟨some 11, .faddr 9 1 (.t 1), some (7, false), []⟩,
⟨some 12, .load 1 false (.t 11), some (7, false), []⟩,
⟨some 13, .len .slice (.t 12), some (7, false), []⟩,
⟨some 14, .bin .neq (.t 10) (.t 13), some (7, false), []⟩,
⟨some 15, .pick (.t 7) (.c (.d (.bool true))) (.t 14), none, []⟩,
⟨some 16, .mv (.t 15), none, []⟩,
⟨some 17, .faddr 8 1 (.t 1), some (16, false), []⟩,
⟨some 18, .load 1 false (.t 17), some (16, false), []⟩,
⟨some 19, .len .slice (.t 18), some (16, false), []⟩,
⟨some 20, .bin .gtr (.t 19) (.c (.d (.int .i64 16))), some (16, false), []⟩,
⟨some 21, .pick (.t 16) (.c (.d (.bool true))) (.t 20), none, []⟩,
⟨some 22, .mv (.t 21), none, []⟩,
⟨some 23, .faddr 10 3 (.t 1), some (22, false), []⟩,
⟨some 24, .load 3 true (.t 23), some (22, false), []⟩,
⟨some 25, .call 51 [(.t 24)], some (22, false), []⟩,
⟨some 26, .un .not (.t 25), some (22, false), []⟩,
⟨some 27, .pick (.t 22) (.c (.d (.bool true))) (.t 26), none, []⟩,
⟨some 28, .mv (.t 27), none, []⟩,
⟨some 29, .faddr 13 3 (.t 1), some (28, false), []⟩,
⟨some 30, .load 3 true (.t 29), some (28, false), []⟩,
⟨some 31, .call 51 [(.t 30)], some (28, false), []⟩,
⟨some 32, .un .not (.t 31), some (28, false), []⟩,
⟨some 33, .pick (.t 28) (.c (.d (.bool true))) (.t 32), none, []⟩,
⟨some 34, .mv (.t 33), none, []⟩,
⟨some 35, .faddr 13 3 (.t 1), some (34, false), []⟩,
⟨some 36, .faddr 1 2 (.t 35), some (34, false), []⟩,
⟨some 37, .faddr 0 1 (.t 36), some (34, false), []⟩,
⟨some 38, .load 1 false (.t 37), some (34, false), []⟩,
⟨some 39, .bin .neq (.t 38) (.c (.d (.str []))), some (34, false), []⟩,
⟨some 40, .pick (.t 34) (.c (.d (.bool true))) (.t 39), none, []⟩]
def f16.r2 : List IOper := [
⟨some 2, .mv (.c (.d (.bool false))), none, []⟩]
def f16.r3 : List IOper := [
⟨some 3, .alloc [.nilf], none, []⟩,
⟨none, .store 1 (.t 3) (.f 52), none, []⟩]
def f16.r4 : List IOper := [
⟨some 41, .faddr 8 1 (.t 1), none, []⟩,
⟨some 42, .load 1 false (.t 41), none, []⟩,
⟨some 43, .load 1 false (.t 3), none, []⟩,
⟨some 44, .call 53 [(.t 42), (.t 43)], none, []⟩,
⟨some 45, .un .not (.t 44), none, []⟩,
⟨some 46, .mv (.t 45), none, []⟩,
⟨some 47, .faddr 9 1 (.t 1), some (46, true), []⟩,
⟨some 48, .load 1 false (.t 47), some (46, true), []⟩,
⟨some 49, .mkfunc 54 [] [(.t 3)], some (46, true), []⟩,
⟨some 50, .call 53 [(.t 48), (.t 49)], some (46, true), []⟩,
⟨some 51, .un .not (.t 50), some (46, true), []⟩,
⟨some 52, .pick (.t 46) (.t 51) (.c (.d (.bool false))), none, []⟩,
⟨some 2, .mv (.t 52), none, []⟩]
def f16 : IFn := ⟨1, 53, [.t 2], (.seq (.region f16.r0) (.seq (.seq (.region f16.r1) (.cond (.t 40) (.seq (.region f16.r2) .ret) .skip)) (.seq (.region f16.r3) (.seq (.region f16.r4) .ret))))⟩
def f18.r0 : List IOper := [
⟨some 1, .box 18 (.t 0), none, []⟩,
⟨some 2, .mv (.c (.d (.bool false))), none, []⟩]
def f18.r1 : List IOper := [
⟨some 3, .load 18 true (.t 1), none, []⟩,
⟨some 4, .call 16 [(.t 3)], none, []⟩,
⟨some 5, .mv (.t 4), none, []⟩,
⟨some 6, .faddr 8 1 (.t 1), some (5, true), []⟩,
⟨some 7, .load 1 false (.t 6), some (5, true), []⟩,
⟨some 8, .call 53 [(.t 7), (.f 55)], some (5, true), []⟩,
⟨some 9, .un .not (.t 8), some (5, true), []⟩,
⟨some 10, .pick (.t 5) (.t 9) (.c (.d (.bool false))), none, []⟩,
⟨some 2, .mv (.t 10), none, []⟩]
def f18 : IFn := ⟨1, 11, [.t 2], (.seq (.region f18.r0) (.seq (.region f18.r1) .ret))⟩
def f21.r0 : List IOper := [
⟨some 4, .mv (.c (.d (.bool false))), none, []⟩]
def f21.r1 : List IOper := [
⟨some 6, .mv (.t 0), none, []⟩,
⟨some 7, .len .slice (.t 6), none, []⟩,
⟨some 8, .mv (.t 1), none, []⟩,
⟨some 9, .len .slice (.t 8), none, []⟩,
⟨some 10, .bin .neq (.t 7) (.t 9), none, []⟩]
def f21.r2 : List IOper := [
⟨some 4, .mv (.c (.d (.bool false))), none, []⟩]
def f21.r3 : List IOper := [
⟨some 5, .mv (.c (.d (.int .i64 0))), none, []⟩]
def f21.r4 : List IOper := [
⟨some 11, .mv (.t 5), none, []⟩,
⟨some 12, .mv (.t 0), none, []⟩,
⟨some 13, .len .slice (.t 12), none, []⟩,
⟨some 14, .bin .lss (.t 11) (.t 13), none, []⟩]
def f21.r5 : List IOper := [
⟨some 17, .mv (.t 0), none, []⟩,
⟨some 18, .mv (.t 5), none, []⟩,
⟨some 19, .iaddr 1 (.t 17) (.t 18), none, [0, 1]⟩,
⟨some 20, .load 1 false (.t 19), none, [2]⟩,
⟨some 21, .mv (.t 1), none, []⟩,
⟨some 22, .mv (.t 5), none, []⟩,
⟨some 23, .iaddr 1 (.t 21) (.t 22), none, [4, 5]⟩,
⟨some 24, .load 1 false (.t 23), none, [6]⟩,
⟨some 25, .eq true .bool (.t 20) (.t 24), none, [3, 7]⟩]
def f21.r6 : List IOper := [
⟨some 4, .mv (.c (.d (.bool false))), none, []⟩]
def f21.r7 : List IOper := [
⟨some 15, .mv (.t 5), none, []⟩,
⟨some 16, .bin .add (.t 15) (.c (.d (.int .i64 1))), none, []⟩,
⟨some 5, .mv (.t 16), none, []⟩]
def f21.l8 : IR := (.seq (.seq (.region f21.r4) (.cond (.t 14) .skip (.exit 0))) (.seq (.block 1 (.seq (.draw f21.r5) (.cond (.t 25) (.seq (.region f21.r6) .ret) .skip))) (.region f21.r7)))
def f21.r9 : List IOper := [
⟨some 4, .mv (.c (.d (.bool true))), none, []⟩]
def f21 : IFn := ⟨2, 26, [.t 4], (.seq (.region f21.r0) (.seq (.seq (.region f21.r1) (.cond (.t 10) (.seq (.region f21.r2) .ret) .skip)) (.seq (.seq (.region f21.r3) (.block 0 (.loop f21.l8))) (.seq (.region f21.r9) .ret))))⟩
def f23.r0 : List IOper := [
⟨some 3, .box 18 (.t 0), none, []⟩,
⟨some 4, .box 2 (.t 1), none, []⟩,
⟨some 6, .mv (.c (.nils)), none, []⟩,
⟨some 7, .mv (.c (.d (.int .i64 0))), none, []⟩]
def f23.r1 : List IOper := [
⟨some 16, .mv (.t 2), none, []⟩,
⟨some 17, .call 58 [(.t 16), (.c (.d (.bool true)))], none, []⟩,
⟨some 8, .mv (.t 17), none, []⟩]
def f23.r2 : List IOper := [
⟨some 18, .load 18 true (.t 3), none, []⟩,
⟨some 19, .call 16 [(.t 18)], none, []⟩,
⟨some 20, .un .not (.t 19), none, []⟩,
⟨some 21, .mv (.t 20), none, []⟩,
⟨some 22, .load 2 true (.t 4), some (21, false), []⟩,
⟨some 23, .call 59 [(.t 22)], some (21, false), []⟩,
⟨some 24, .un .not (.t 23), some (21, false), []⟩,
⟨some 25, .pick (.t 21) (.c (.d (.bool true))) (.t 24), none, []⟩,
⟨some 26, .mv (.t 25), none, []⟩,
⟨some 27, .mv (.t 2), some (26, false), []⟩,
⟨some 28, .len .slice (.t 27), some (26, false), []⟩,
⟨some 29, .faddr 8 1 (.t 3), some (26, false), []⟩,
⟨some 30, .load 1 false (.t 29), some (26, false), []⟩,
⟨some 31, .len .slice (.t 30), some (26, false), []⟩,
⟨some 32, .bin .neq (.t 28) (.t 31), some (26, false), []⟩,
⟨some 33, .pick (.t 26) (.c (.d (.bool true))) (.t 32), none, []⟩,
⟨some 34, .mv (.t 33), none, []⟩,
⟨some 35, .mv (.t 8), some (34, false), []⟩,
⟨some 36, .un .not (.t 35), some (34, false), []⟩,
⟨some 37, .mv (.t 36), some (34, false), []⟩,
⟨some 38, .faddr 0 1 (.t 4), some (37, true), []⟩,
⟨some 39, .load 1 false (.t 38), some (37, true), []⟩,
⟨some 40, .bin .neq (.t 39) (.c (.d (.str []))), some (37, true), []⟩,
⟨some 41, .mv (.t 40), some (37, true), []⟩,
⟨some 42, .faddr 1 1 (.t 4), some (41, false), []⟩,
⟨some 43, .load 1 false (.t 42), some (41, false), []⟩,
⟨some 44, .len .slice (.t 43), some (41, false), []⟩,
⟨some 45, .bin .gtr (.t 44) (.c (.d (.int .i64 0))), some (41, false), []⟩,
⟨some 46, .pick (.t 41) (.c (.d (.bool true))) (.t 45), some (37, true), []⟩,
⟨some 47, .pick (.t 37) (.t 46) (.c (.d (.bool false))), some (34, false), []⟩,
⟨some 48, .pick (.t 34) (.c (.d (.bool true))) (.t 47), none, []⟩]
def f23.r3 : List IOper := [
⟨some 6, .mv (.c (.nils)), none, []⟩,
⟨some 7, .mv (.c (.d (.int .i64 1))), none, []⟩]
def f23.r4 : List IOper := [
⟨some 9, .mv (.c (.nils)), none, []⟩]
def f23.r5 : List IOper := [
⟨some 49, .faddr 8 1 (.t 3), none, []⟩,
⟨some 50, .load 1 false (.t 49), none, []⟩,
⟨some 51, .faddr 10 3 (.t 3), none, []⟩,
⟨some 52, .load 3 true (.t 51), none, []⟩,
⟨some 53, .mkSlice 3 1 [.d (.str []), .d (.str []), .nils] [(0, 3, (.t 52))], none, []⟩,
⟨some 54, .mkSlice 1 2 [.nils, .nils] [(0, 1, (.t 50)), (1, 1, (.t 53))], none, []⟩,
⟨some 55, .call 60 [(.t 54)], none, []⟩,
⟨some 56, .len .slice (.t 55), none, []⟩,
⟨some 57, .mv (.c (.d (.int .i64 0))), none, []⟩]
def f23.r6 : List IOper := [
⟨some 58, .bin .lss (.t 57) (.t 56), none, []⟩]
def f23.r7 : List IOper := [
⟨some 59, .mv (.t 57), none, []⟩,
⟨some 60, .iaddr 3 (.t 55) (.t 57), none, []⟩,
⟨some 61, .load 3 true (.t 60), none, []⟩,
⟨some 11, .alloc [.d (.str []), .d (.str []), .nils], none, []⟩,
⟨some 10, .mv (.t 59), none, []⟩,
⟨none, .store 3 (.t 11) (.t 61), none, []⟩]
def f23.r8 : List IOper := [
⟨some 62, .mv (.t 10), none, []⟩,
⟨some 63, .faddr 8 1 (.t 3), none, []⟩,
⟨some 64, .load 1 false (.t 63), none, []⟩,
⟨some 65, .len .slice (.t 64), none, []⟩,
⟨some 66, .bin .eql (.t 62) (.t 65), none, []⟩,
⟨some 12, .mv (.t 66), none, []⟩]
def f23.r9 : List IOper := [
⟨some 67, .faddr 13 3 (.t 3), none, []⟩,
⟨some 68, .load 3 true (.t 67), none, []⟩,
⟨some 69, .mv (.t 8), none, []⟩,
⟨some 13, .alloc [.d (.str []), .d (.str []), .nils], none, []⟩,
⟨none, .store 3 (.t 13) (.t 68), none, []⟩,
⟨some 14, .mv (.t 69), none, []⟩]
def f23.r10 : List IOper := [
⟨some 70, .mv (.t 12), none, []⟩,
⟨some 71, .un .not (.t 70), none, []⟩]
def f23.r11 : List IOper := [
⟨some 72, .faddr 9 1 (.t 3), none, []⟩,
⟨some 73, .load 1 false (.t 72), none, [0]⟩,
⟨some 74, .mv (.t 10), none, []⟩,
⟨some 75, .iaddr 3 (.t 73) (.t 74), none, [1, 2]⟩,
⟨some 76, .load 3 true (.t 75), none, [3]⟩,
⟨some 77, .mv (.t 2), none, []⟩,
⟨some 78, .mv (.t 10), none, []⟩,
⟨some 79, .iaddr 1 (.t 77) (.t 78), none, [5, 6]⟩,
⟨some 80, .load 1 false (.t 79), none, [7]⟩,
⟨none, .store 3 (.t 13) (.t 76), none, [4, 0, 1, 2, 3, 4]⟩,
⟨some 14, .mv (.t 80), none, [8, 9, 0, 1, 2, 3, 4, 5, 6, 7, 8, 9]⟩]
def f23.r12 : List IOper := [
⟨some 81, .mv (.t 14), none, []⟩]
def f23.r13 : List IOper := [
⟨some 15, .mv (.c (.d (.int .i64 0))), none, []⟩]
def f23.r14 : List IOper := [
⟨some 83, .load 2 true (.t 4), none, []⟩,
⟨some 84, .load 3 true (.t 13), none, []⟩,
⟨some 85, .call 61 [(.t 83), (.t 84)], none, []⟩,
⟨some 82, .mv (.t 85), none, []⟩,
⟨some 86, .ext (.t 82) 0, none, []⟩,
⟨some 87, .ext (.t 82) 1, none, []⟩,
⟨none, .store 3 (.t 13) (.t 86), none, []⟩,
⟨some 15, .mv (.t 87), none, []⟩]
def f23.r15 : List IOper := [
⟨some 88, .mv (.t 15), none, []⟩,
⟨some 89, .bin .neq (.t 88) (.c (.d (.int .i64 0))), none, []⟩]
def f23.r16 : List IOper := [
⟨some 90, .mv (.t 15), none, []⟩,
⟨some 6, .mv (.c (.nils)), none, []⟩,
⟨some 7, .mv (.t 90), none, []⟩]
def f23.r17 : List IOper := [
⟨some 91, .mv (.t 9), none, []⟩,
⟨some 92, .load 3 true (.t 11), none, []⟩,
⟨some 93, .load 3 true (.t 13), none, []⟩,
⟨some 94, .build [.d (.str []), .d (.str []), .nils, .d (.str []), .d (.str []), .nils] [(0, 3, (.t 92)), (3, 3, (.t 93))], none, []⟩,
⟨some 95, .mkSlice 6 1 [.d (.str []), .d (.str []), .nils, .d (.str []), .d (.str []), .nils] [(0, 6, (.t 94))], none, []⟩,
⟨some 96, .append 6 112 (.t 91) (.t 95), none, []⟩,
⟨some 9, .mv (.t 96), none, []⟩]
def f23.r18 : List IOper := [
⟨some 97, .bin .add (.t 57) (.c (.d (.int .i64 1))), none, []⟩,
⟨some 57, .mv (.t 97), none, []⟩]
def f23.l19 : IR := (.seq (.region f23.r6) (.seq (.cond (.t 58) .skip (.exit 0)) (.seq (.block 1 (.seq (.region f23.r7) (.seq (.region f23.r8) (.seq (.region f23.r9) (.seq (.seq (.region f23.r10) (.cond (.t 71) (.draw f23.r11) .skip)) (.seq (.seq (.region f23.r12) (.cond (.t 81) (.seq (.region f23.r13) (.seq (.region f23.r14) (.seq (.region f23.r15) (.cond (.t 89) (.seq (.region f23.r16) .ret) .skip)))) .skip)) (.region f23.r17))))))) (.region f23.r18))))
def f23.r20 : List IOper := [
⟨some 98, .mv (.t 9), none, []⟩,
⟨some 6, .mv (.t 98), none, []⟩,
⟨some 7, .mv (.c (.d (.int .i64 0))), none, []⟩]
def f23 : IFn := ⟨3, 99, [.t 6, .t 7], (.seq (.region f23.r0) (.seq (.region f23.r1) (.seq (.seq (.region f23.r2) (.cond (.t 48) (.seq (.region f23.r3) .ret) .skip)) (.seq (.region f23.r4) (.seq (.seq (.region f23.r5) (.block 0 (.loop f23.l19))) (.seq (.region f23.r20) .ret))))))⟩
def f27.r0 : List IOper := [
⟨some 3, .box 18 (.t 0), none, []⟩,
⟨some 4, .box 2 (.t 1), none, []⟩,
⟨some 6, .mv (.c (.d (.bool false))), none, []⟩]
def f27.r1 : List IOper := [
⟨some 10, .load 18 true (.t 3), none, []⟩,
⟨some 11, .load 2 true (.t 4), none, []⟩,
⟨some 12, .mv (.t 2), none, []⟩,
⟨some 13, .call 23 [(.t 10), (.t 11), (.t 12)], none, []⟩,
⟨some 9, .mv (.t 13), none, []⟩,
⟨some 14, .ext (.t 9) 0, none, []⟩,
⟨some 15, .ext (.t 9) 1, none, []⟩,
⟨some 7, .mv (.t 14), none, []⟩,
⟨some 8, .mv (.t 15), none, []⟩]
def f27.r2 : List IOper := [
⟨some 16, .mv (.t 8), none, []⟩,
⟨some 17, .bin .eql (.t 16) (.c (.d (.int .i64 0))), none, []⟩,
⟨some 18, .mv (.t 17), none, []⟩,
⟨some 19, .mv (.t 7), some (18, true), []⟩,
⟨some 20, .call 66 [(.t 19), (.f 67)], some (18, true), []⟩,
⟨some 21, .un .not (.t 20), some (18, true), []⟩,
⟨some 22, .pick (.t 18) (.t 21) (.c (.d (.bool false))), none, []⟩,
⟨some 6, .mv (.t 22), none, []⟩]
def f27 : IFn := ⟨3, 23, [.t 6], (.seq (.region f27.r0) (.seq (.region f27.r1) (.seq (.region f27.r2) .ret)))⟩
def f34.r0 : List IOper := [
⟨some 4, .mv (.c (.nils)), none, []⟩,
⟨some 5, .mv (.c (.nils)), none, []⟩,
⟨some 6, .mv (.c (.d (.int .i64 0))), none, []⟩]
def f34.r1 : List IOper := [
⟨some 7, .alloc [.nilf], none, []⟩,
⟨none, .store 1 (.t 7) (.f 80), none, []⟩]
def f34.r2 : List IOper := [
⟨some 12, .mv (.t 0), none, []⟩,
⟨some 13, .len .slice (.t 12), none, []⟩,
⟨some 14, .mv (.t 1), none, []⟩,
⟨some 15, .len .slice (.t 14), none, []⟩,
⟨some 16, .bin .neq (.t 13) (.t 15), none, []⟩,
⟨some 17, .mv (.t 16), none, []⟩,
⟨some 18, .mv (.t 0), some (17, false), []⟩,
⟨some 19, .len .slice (.t 18), some (17, false), []⟩,
⟨some 20, .bin .gtr (.t 19) (.c (.d (.int .i64 16))), some (17, false), []⟩,
⟨some 21, .pick (.t 17) (.c (.d (.bool true))) (.t 20), none, []⟩,
⟨some 22, .mv (.t 21), none, []⟩,
⟨some 23, .mv (.t 1), some (22, false), []⟩,
⟨some 24, .load 1 false (.t 7), some (22, false), []⟩,
⟨some 25, .call 81 [(.t 23), (.t 24)], some (22, false), []⟩,
⟨some 26, .pick (.t 22) (.c (.d (.bool true))) (.t 25), none, []⟩,
⟨some 27, .mv (.t 26), none, []⟩,
⟨some 28, .mv (.t 0), some (27, false), []⟩,
⟨some 29, .mkfunc 83 [] [(.t 7)], some (27, false), []⟩,
⟨some 30, .call 82 [(.t 28), (.t 29)], some (27, false), []⟩,
⟨some 31, .pick (.t 27) (.c (.d (.bool true))) (.t 30), none, []⟩]
def f34.r3 : List IOper := [
⟨some 4, .mv (.c (.nils)), none, []⟩,
⟨some 5, .mv (.c (.nils)), none, []⟩,
⟨some 6, .mv (.c (.d (.int .i64 1))), none, []⟩]
def f34.r4 : List IOper := [
⟨some 8, .mv (.c (.d (.bool true))), none, []⟩]
def f34.r5 : List IOper := [
⟨some 32, .mv (.t 0), none, []⟩,
⟨some 33, .len .slice (.t 32), none, []⟩,
⟨some 34, .mv (.c (.d (.int .i64 0))), none, []⟩]
def f34.r6 : List IOper := [
⟨some 35, .bin .lss (.t 34) (.t 33), none, []⟩]
def f34.r7 : List IOper := [
⟨some 36, .mv (.t 34), none, []⟩,
⟨some 37, .iaddr 1 (.t 32) (.t 34), none, []⟩,
⟨some 38, .load 1 false (.t 37), none, []⟩,
⟨some 9, .mv (.t 36), none, []⟩,
⟨some 10, .mv (.t 38), none, []⟩]
def f34.r8 : List IOper := [
⟨some 39, .mv (.t 10), none, []⟩,
⟨some 40, .len .slice (.t 39), none, []⟩,
⟨some 41, .mv (.t 1), none, []⟩,
⟨some 42, .mv (.t 9), none, []⟩,
⟨some 43, .iaddr 1 (.t 41) (.t 42), none, []⟩,
⟨some 44, .load 1 false (.t 43), none, []⟩,
⟨some 45, .bin .sub (.t 40) (.t 44), none, []⟩,
⟨some 11, .mv (.t 45), none, []⟩]
def f34.r9 : List IOper := [
⟨some 46, .mv (.t 11), none, []⟩,
⟨some 47, .bin .lss (.t 46) (.c (.d (.int .i64 0))), none, []⟩,
⟨some 48, .mv (.t 47), none, []⟩,
⟨some 49, .mv (.t 11), some (48, false), []⟩,
⟨some 50, .bin .gtr (.t 49) (.c (.d (.int .i64 0))), some (48, false), []⟩,
⟨some 51, .mv (.t 50), some (48, false), []⟩,
⟨some 52, .mv (.t 4), some (51, true), []⟩,
⟨some 53, .len .slice (.t 52), some (51, true), []⟩,
⟨some 54, .bin .gtr (.t 53) (.c (.d (.int .i64 0))), some (51, true), []⟩,
⟨some 55, .pick (.t 51) (.t 54) (.c (.d (.bool false))), some (48, false), []⟩,
⟨some 56, .mv (.t 55), some (48, false), []⟩,
⟨some 57, .mv (.t 11), some (56, true), []⟩,
⟨some 58, .mv (.t 4), some (56, true), []⟩,
⟨some 59, .len .slice (.t 58), some (56, true), []⟩,
⟨some 60, .bin .neq (.t 57) (.t 59), some (56, true), []⟩,
⟨some 61, .pick (.t 56) (.t 60) (.c (.d (.bool false))), some (48, false), []⟩,
⟨some 62, .pick (.t 48) (.c (.d (.bool true))) (.t 61), none, []⟩]
def f34.r10 : List IOper := [
⟨some 4, .mv (.c (.nils)), none, []⟩,
⟨some 5, .mv (.c (.nils)), none, []⟩,
⟨some 6, .mv (.c (.d (.int .i64 13))), none, []⟩]
def f34.r11 : List IOper := [
⟨some 63, .mv (.t 11), none, []⟩,
⟨some 64, .bin .gtr (.t 63) (.c (.d (.int .i64 0))), none, []⟩,
⟨some 65, .mv (.t 64), none, []⟩,
⟨some 66, .mv (.t 4), some (65, true), []⟩,
⟨some 67, .len .slice (.t 66), some (65, true), []⟩,
⟨some 68, .bin .eql (.t 67) (.c (.d (.int .i64 0))), some (65, true), []⟩,
⟨some 69, .pick (.t 65) (.t 68) (.c (.d (.bool false))), none, []⟩]
def f34.r12 : List IOper := [
⟨some 70, .mv (.t 10), none, []⟩,
⟨some 71, .mv (.t 11), none, []⟩,
⟨some 72, .lslice 1 (.t 70) none (some (.t 71)), none, []⟩,
⟨some 73, .call 84 [(.t 72)], none, []⟩,
⟨some 4, .mv (.t 73), none, []⟩]
def f34.r13 : List IOper := [
⟨some 74, .mv (.t 8), none, []⟩,
⟨some 75, .mv (.t 74), none, []⟩,
⟨some 76, .mv (.t 11), some (75, true), []⟩,
⟨some 77, .bin .eql (.t 76) (.c (.d (.int .i64 0))), some (75, true), []⟩,
⟨some 78, .mv (.t 77), some (75, true), []⟩,
⟨some 79, .mv (.t 4), some (78, false), []⟩,
⟨some 80, .mv (.t 10), some (78, false), []⟩,
⟨some 81, .mv (.t 11), some (78, false), []⟩,
⟨some 82, .lslice 1 (.t 80) none (some (.t 81)), some (78, false), []⟩,
⟨some 83, .call 85 [(.t 79), (.t 82)], some (78, false), []⟩,
⟨some 84, .pick (.t 78) (.c (.d (.bool true))) (.t 83), some (75, true), []⟩,
⟨some 85, .pick (.t 75) (.t 84) (.c (.d (.bool false))), none, []⟩,
⟨some 8, .mv (.t 85), none, []⟩]
def f34.r14 : List IOper := [
⟨some 86, .mv (.t 5), none, []⟩,
⟨some 87, .mv (.t 11), none, []⟩,
⟨some 88, .bin .gtr (.t 87) (.c (.d (.int .i64 0))), none, []⟩,
⟨some 89, .mkSlice 1 1 [.d (.bool false)] [(0, 1, (.t 88))], none, []⟩,
⟨some 90, .append 1 1 (.t 86) (.t 89), none, []⟩,
⟨some 5, .mv (.t 90), none, []⟩]
def f34.r15 : List IOper := [
⟨some 91, .bin .add (.t 34) (.c (.d (.int .i64 1))), none, []⟩,
⟨some 34, .mv (.t 91), none, []⟩]
def f34.l16 : IR := (.seq (.region f34.r6) (.seq (.cond (.t 35) .skip (.exit 0)) (.seq (.block 1 (.seq (.region f34.r7) (.seq (.region f34.r8) (.seq (.seq (.region f34.r9) (.cond (.t 62) (.seq (.region f34.r10) .ret) .skip)) (.seq (.seq (.region f34.r11) (.cond (.t 69) (.region f34.r12) .skip)) (.seq (.region f34.r13) (.region f34.r14))))))) (.region f34.r15))))
def f34.r17 : List IOper := [
⟨some 92, .mv (.t 8), none, []⟩,
⟨some 93, .un .not (.t 92), none, []⟩]
def f34.r18 : List IOper := [
⟨some 4, .mv (.c (.nils)), none, []⟩,
⟨some 5, .mv (.c (.nils)), none, []⟩,
⟨some 6, .mv (.c (.d (.int .i64 14))), none, []⟩]
def f34.r19 : List IOper := [
⟨some 94, .mv (.t 4), none, []⟩,
⟨some 95, .mv (.t 5), none, []⟩,
⟨some 4, .mv (.t 94), none, []⟩,
⟨some 5, .mv (.t 95), none, []⟩,
⟨some 6, .mv (.c (.d (.int .i64 0))), none, []⟩]
def f34 : IFn := ⟨2, 96, [.t 4, .t 5, .t 6], (.seq (.region f34.r0) (.seq (.region f34.r1) (.seq (.seq (.region f34.r2) (.cond (.t 31) (.seq (.region f34.r3) .ret) .skip)) (.seq (.region f34.r4) (.seq (.seq (.region f34.r5) (.block 0 (.loop f34.l16))) (.seq (.seq (.region f34.r17) (.cond (.t 93) (.seq (.region f34.r18) .ret) .skip)) (.seq (.region f34.r19) .ret)))))))⟩
def f35.r0 : List IOper := [
⟨some 4, .mv (.c (.nils)), none, []⟩,
⟨some 5, .mv (.c (.nils)), none, []⟩,
⟨some 6, .mv (.c (.d (.int .i64 0))), none, []⟩]
def f35.r1 : List IOper := [
⟨some 14, .mv (.t 0), none, []⟩,
⟨some 15, .len .slice (.t 14), none, []⟩,
⟨some 16, .mv (.t 1), none, []⟩,
⟨some 17, .len .slice (.t 16), none, []⟩,
⟨some 18, .bin .neq (.t 15) (.t 17), none, []⟩,
⟨some 19, .mv (.t 18), none, []⟩,
⟨some 20, .mv (.t 0), some (19, false), []⟩,
⟨some 21, .len .slice (.t 20), some (19, false), []⟩,
⟨some 22, .bin .gtr (.t 21) (.c (.d (.int .i64 16))), some (19, false), []⟩,
⟨some 23, .pick (.t 19) (.c (.d (.bool true))) (.t 22), none, []⟩]
def f35.r2 : List IOper := [
⟨some 4, .mv (.c (.nils)), none, []⟩,
⟨some 5, .mv (.c (.nils)), none, []⟩,
⟨some 6, .mv (.c (.d (.int .i64 1))), none, []⟩]
def f35.r3 : List IOper := [
⟨some 7, .mv (.c (.d (.int .i64 0))), none, []⟩]
def f35.r4 : List IOper := [
⟨some 24, .mv (.t 7), none, []⟩,
⟨some 25, .mv (.t 0), none, []⟩,
⟨some 26, .len .slice (.t 25), none, []⟩,
⟨some 27, .bin .lss (.t 24) (.t 26), none, []⟩]
def f35.r5 : List IOper := [
⟨some 8, .mv (.c (.d (.int .i64 0))), none, []⟩]
def f35.r6 : List IOper := [
⟨some 30, .mv (.t 8), none, []⟩,
⟨some 31, .mv (.t 0), none, []⟩,
⟨some 32, .mv (.t 7), none, []⟩,
⟨some 33, .iaddr 1 (.t 31) (.t 32), none, []⟩,
⟨some 34, .load 1 false (.t 33), none, []⟩,
⟨some 35, .len .slice (.t 34), none, []⟩,
⟨some 36, .bin .lss (.t 30) (.t 35), none, []⟩]
def f35.r7 : List IOper := [
⟨some 39, .mv (.t 0), none, []⟩,
⟨some 40, .mv (.t 7), none, []⟩,
⟨some 41, .iaddr 1 (.t 39) (.t 40), none, []⟩,
⟨some 42, .load 1 false (.t 41), none, []⟩,
⟨some 43, .mv (.t 8), none, []⟩,
⟨some 44, .iaddr 1 (.t 42) (.t 43), none, []⟩,
⟨some 45, .load 1 false (.t 44), none, []⟩,
⟨some 46, .bin .lss (.t 45) (.c (.d (.int .i64 0))), none, []⟩]
def f35.r8 : List IOper := [
⟨some 4, .mv (.c (.nils)), none, []⟩,
⟨some 5, .mv (.c (.nils)), none, []⟩,
⟨some 6, .mv (.c (.d (.int .i64 1))), none, []⟩]
def f35.r9 : List IOper := [
⟨some 37, .mv (.t 8), none, []⟩,
⟨some 38, .bin .add (.t 37) (.c (.d (.int .i64 1))), none, []⟩,
⟨some 8, .mv (.t 38), none, []⟩]
def f35.l10 : IR := (.seq (.seq (.region f35.r6) (.cond (.t 36) .skip (.exit 2))) (.seq (.block 3 (.seq (.region f35.r7) (.cond (.t 46) (.seq (.region f35.r8) .ret) .skip))) (.region f35.r9)))
def f35.r11 : List IOper := [
⟨some 47, .mv (.t 1), none, []⟩,
⟨some 48, .mv (.t 7), none, []⟩,
⟨some 49, .iaddr 1 (.t 47) (.t 48), none, []⟩,
⟨some 50, .load 1 false (.t 49), none, []⟩,
⟨some 51, .bin .lss (.t 50) (.c (.d (.int .i64 0))), none, []⟩]
def f35.r12 : List IOper := [
⟨some 4, .mv (.c (.nils)), none, []⟩,
⟨some 5, .mv (.c (.nils)), none, []⟩,
⟨some 6, .mv (.c (.d (.int .i64 1))), none, []⟩]
def f35.r13 : List IOper := [
⟨some 28, .mv (.t 7), none, []⟩,
⟨some 29, .bin .add (.t 28) (.c (.d (.int .i64 1))), none, []⟩,
⟨some 7, .mv (.t 29), none, []⟩]
def f35.l14 : IR := (.seq (.seq (.region f35.r4) (.cond (.t 27) .skip (.exit 0))) (.seq (.block 1 (.seq (.seq (.region f35.r5) (.block 2 (.loop f35.l10))) (.seq (.region f35.r11) (.cond (.t 51) (.seq (.region f35.r12) .ret) .skip)))) (.region f35.r13)))
def f35.r15 : List IOper := [
⟨some 9, .mv (.c (.nils)), none, []⟩]
def f35.r16 : List IOper := [
⟨some 10, .mv (.c (.nils)), none, []⟩]
def f35.r17 : List IOper := [
⟨some 11, .mv (.c (.d (.int .i64 0))), none, []⟩]
def f35.r18 : List IOper := [
⟨some 52, .mv (.t 11), none, []⟩,
⟨some 53, .mv (.t 0), none, []⟩,
⟨some 54, .len .slice (.t 53), none, []⟩,
⟨some 55, .bin .lss (.t 52) (.t 54), none, []⟩]
def f35.r19 : List IOper := [
⟨some 58, .mv (.t 0), none, []⟩,
⟨some 59, .mv (.t 11), none, []⟩,
⟨some 60, .iaddr 1 (.t 58) (.t 59), none, [0, 1]⟩,
⟨some 61, .load 1 false (.t 60), none, [2]⟩,
⟨some 62, .len .slice (.t 61), none, [3]⟩,
⟨some 63, .mv (.t 1), none, []⟩,
⟨some 64, .mv (.t 11), none, []⟩,
⟨some 65, .iaddr 1 (.t 63) (.t 64), none, [5, 6]⟩,
⟨some 66, .load 1 false (.t 65), none, [7]⟩,
⟨some 67, .bin .sub (.t 62) (.t 66), none, [4, 8]⟩,
⟨some 12, .mv (.t 67), none, [9, 0, 1, 2, 3, 4, 5, 6, 7, 8, 9]⟩]
def f35.r20 : List IOper := [
⟨some 68, .mv (.t 12), none, []⟩,
⟨some 69, .bin .lss (.t 68) (.c (.d (.int .i64 0))), none, []⟩,
⟨some 70, .mv (.t 69), none, []⟩,
⟨some 71, .mv (.t 12), some (70, false), []⟩,
⟨some 72, .bin .gtr (.t 71) (.c (.d (.int .i64 0))), some (70, false), []⟩,
⟨some 73, .mv (.t 72), some (70, false), []⟩,
⟨some 74, .mv (.t 9), some (73, true), []⟩,
⟨some 75, .len .slice (.t 74), some (73, true), []⟩,
⟨some 76, .bin .gtr (.t 75) (.c (.d (.int .i64 0))), some (73, true), []⟩,
⟨some 77, .pick (.t 73) (.t 76) (.c (.d (.bool false))), some (70, false), []⟩,
⟨some 78, .mv (.t 77), some (70, false), []⟩,
⟨some 79, .mv (.t 12), some (78, true), []⟩,
⟨some 80, .mv (.t 9), some (78, true), []⟩,
⟨some 81, .len .slice (.t 80), some (78, true), []⟩,
⟨some 82, .bin .neq (.t 79) (.t 81), some (78, true), []⟩,
⟨some 83, .pick (.t 78) (.t 82) (.c (.d (.bool false))), some (70, false), []⟩,
⟨some 84, .pick (.t 70) (.c (.d (.bool true))) (.t 83), none, []⟩]
def f35.r21 : List IOper := [
⟨some 4, .mv (.c (.nils)), none, []⟩,
⟨some 5, .mv (.c (.nils)), none, []⟩,
⟨some 6, .mv (.c (.d (.int .i64 13))), none, []⟩]
def f35.r22 : List IOper := [
⟨some 85, .mv (.t 12), none, []⟩,
⟨some 86, .bin .gtr (.t 85) (.c (.d (.int .i64 0))), none, []⟩,
⟨some 87, .mv (.t 86), none, []⟩,
⟨some 88, .mv (.t 9), some (87, true), []⟩,
⟨some 89, .len .slice (.t 88), some (87, true), []⟩,
⟨some 90, .bin .eql (.t 89) (.c (.d (.int .i64 0))), some (87, true), []⟩,
⟨some 91, .pick (.t 87) (.t 90) (.c (.d (.bool false))), none, []⟩]
def f35.r23 : List IOper := [
⟨some 92, .mkSlice 1 0 [] [], none, []⟩,
⟨some 93, .mv (.t 0), none, []⟩,
⟨some 94, .mv (.t 11), none, []⟩,
⟨some 95, .iaddr 1 (.t 93) (.t 94), none, []⟩,
⟨some 96, .load 1 false (.t 95), none, []⟩,
⟨some 97, .mv (.t 12), none, []⟩,
⟨some 98, .lslice 1 (.t 96) none (some (.t 97)), none, []⟩,
⟨some 99, .append 1 8 (.t 92) (.t 98), none, []⟩,
⟨some 9, .mv (.t 99), none, []⟩]
def f35.r24 : List IOper := [
⟨some 100, .mv (.t 10), none, []⟩,
⟨some 101, .mv (.t 12), none, []⟩,
⟨some 102, .bin .gtr (.t 101) (.c (.d (.int .i64 0))), none, []⟩,
⟨some 103, .mkSlice 1 1 [.d (.bool false)] [(0, 1, (.t 102))], none, []⟩,
⟨some 104, .append 1 1 (.t 100) (.t 103), none, []⟩,
⟨some 10, .mv (.t 104), none, []⟩]
def f35.r25 : List IOper := [
⟨some 56, .mv (.t 11), none, []⟩,
⟨some 57, .bin .add (.t 56) (.c (.d (.int .i64 1))), none, []⟩,
⟨some 11, .mv (.t 57), none, []⟩]
def f35.l26 : IR := (.seq (.seq (.region f35.r18) (.cond (.t 55) .skip (.exit 4))) (.seq (.block 5 (.seq (.draw f35.r19) (.seq (.seq (.region f35.r20) (.cond (.t 84) (.seq (.region f35.r21) .ret) .skip)) (.seq (.seq (.region f35.r22) (.cond (.t 91) (.region f35.r23) .skip)) (.region f35.r24))))) (.region f35.r25)))
def f35.r27 : List IOper := [
⟨some 13, .mv (.c (.d (.int .i64 0))), none, []⟩]
def f35.r28 : List IOper := [
⟨some 105, .mv (.t 13), none, []⟩,
⟨some 106, .mv (.t 0), none, []⟩,
⟨some 107, .len .slice (.t 106), none, []⟩,
⟨some 108, .bin .lss (.t 105) (.t 107), none, []⟩]
def f35.r29 : List IOper := [
⟨some 111, .mv (.t 10), none, []⟩,
⟨some 112, .mv (.t 13), none, []⟩,
⟨some 113, .iaddr 1 (.t 111) (.t 112), none, []⟩,
⟨some 114, .load 1 false (.t 113), none, []⟩,
⟨some 115, .mv (.t 114), none, []⟩,
⟨some 116, .mv (.t 0), some (115, true), []⟩,
⟨some 117, .mv (.t 13), some (115, true), []⟩,
⟨some 118, .iaddr 1 (.t 116) (.t 117), some (115, true), []⟩,
⟨some 119, .load 1 false (.t 118), some (115, true), []⟩,
⟨some 120, .mv (.t 9), some (115, true), []⟩,
⟨some 121, .len .slice (.t 120), some (115, true), []⟩,
⟨some 122, .lslice 1 (.t 119) none (some (.t 121)), some (115, true), []⟩,
⟨some 123, .mv (.t 9), some (115, true), []⟩,
⟨some 124, .call 36 [(.t 122), (.t 123)], some (115, true), []⟩,
⟨some 125, .un .not (.t 124), some (115, true), []⟩,
⟨some 126, .pick (.t 115) (.t 125) (.c (.d (.bool false))), none, []⟩]
def f35.r30 : List IOper := [
⟨some 4, .mv (.c (.nils)), none, []⟩,
⟨some 5, .mv (.c (.nils)), none, []⟩,
⟨some 6, .mv (.c (.d (.int .i64 14))), none, []⟩]
def f35.r31 : List IOper := [
⟨some 109, .mv (.t 13), none, []⟩,
⟨some 110, .bin .add (.t 109) (.c (.d (.int .i64 1))), none, []⟩,
⟨some 13, .mv (.t 110), none, []⟩]
def f35.l32 : IR := (.seq (.seq (.region f35.r28) (.cond (.t 108) .skip (.exit 6))) (.seq (.block 7 (.seq (.region f35.r29) (.cond (.t 126) (.seq (.region f35.r30) .ret) .skip))) (.region f35.r31)))
def f35.r33 : List IOper := [
⟨some 127, .mv (.t 9), none, []⟩,
⟨some 128, .mv (.t 10), none, []⟩,
⟨some 4, .mv (.t 127), none, []⟩,
⟨some 5, .mv (.t 128), none, []⟩,
⟨some 6, .mv (.c (.d (.int .i64 0))), none, []⟩]
def f35 : IFn := ⟨2, 129, [.t 4, .t 5, .t 6], (.seq (.region f35.r0) (.seq (.seq (.region f35.r1) (.cond (.t 23) (.seq (.region f35.r2) .ret) .skip)) (.seq (.seq (.region f35.r3) (.block 0 (.loop f35.l14))) (.seq (.region f35.r15) (.seq (.region f35.r16) (.seq (.seq (.region f35.r17) (.block 4 (.loop f35.l26))) (.seq (.seq (.region f35.r27) (.block 6 (.loop f35.l32))) (.seq (.region f35.r33) .ret))))))))⟩
def f36.r0 : List IOper := [
⟨some 4, .mv (.c (.d (.bool false))), none, []⟩]
def f36.r1 : List IOper := [
⟨some 6, .mv (.t 0), none, []⟩,
⟨some 7, .len .slice (.t 6), none, []⟩,
⟨some 8, .mv (.t 1), none, []⟩,
⟨some 9, .len .slice (.t 8), none, []⟩,
⟨some 10, .bin .neq (.t 7) (.t 9), none, []⟩]
def f36.r2 : List IOper := [
⟨some 4, .mv (.c (.d (.bool false))), none, []⟩]
def f36.r3 : List IOper := [
⟨some 5, .mv (.c (.d (.int .i64 0))), none, []⟩]
def f36.r4 : List IOper := [
⟨some 11, .mv (.t 5), none, []⟩,
⟨some 12, .mv (.t 0), none, []⟩,
⟨some 13, .len .slice (.t 12), none, []⟩,
⟨some 14, .bin .lss (.t 11) (.t 13), none, []⟩]
def f36.r5 : List IOper := [
⟨some 17, .mv (.t 0), none, []⟩,
⟨some 18, .mv (.t 5), none, []⟩,
⟨some 19, .iaddr 1 (.t 17) (.t 18), none, [0, 1]⟩,
⟨some 20, .load 1 false (.t 19), none, [2]⟩,
⟨some 21, .mv (.t 1), none, []⟩,
⟨some 22, .mv (.t 5), none, []⟩,
⟨some 23, .iaddr 1 (.t 21) (.t 22), none, [4, 5]⟩,
⟨some 24, .load 1 false (.t 23), none, [6]⟩,
⟨some 25, .bin .neq (.t 20) (.t 24), none, [3, 7]⟩]
def f36.r6 : List IOper := [
⟨some 4, .mv (.c (.d (.bool false))), none, []⟩]
def f36.r7 : List IOper := [
⟨some 15, .mv (.t 5), none, []⟩,
⟨some 16, .bin .add (.t 15) (.c (.d (.int .i64 1))), none, []⟩,
⟨some 5, .mv (.t 16), none, []⟩]
def f36.l8 : IR := (.seq (.seq (.region f36.r4) (.cond (.t 14) .skip (.exit 0))) (.seq (.block 1 (.seq (.draw f36.r5) (.cond (.t 25) (.seq (.region f36.r6) .ret) .skip))) (.region f36.r7)))
def f36.r9 : List IOper := [
⟨some 4, .mv (.c (.d (.bool true))), none, []⟩]
def f36 : IFn := ⟨2, 26, [.t 4], (.seq (.region f36.r0) (.seq (.seq (.region f36.r1) (.cond (.t 10) (.seq (.region f36.r2) .ret) .skip)) (.seq (.seq (.region f36.r3) (.block 0 (.loop f36.l8))) (.seq (.region f36.r9) .ret))))⟩
def f49.r0 : List IOper := [
⟨some 6, .alloc [.d (.int .i64 0), .d (.int .i64 0), .d (.str []), .d (.str []), .nils, .d (.str []), .d (.str []), .nils, .nils, .nils, .d (.str []), .d (.str []), .nils, .d (.str []), .d (.str []), .nils, .d (.int .i64 0), .nils], none, []⟩]
def f49.r1 : List IOper := [
⟨some 15, .mv (.t 0), none, []⟩,
⟨some 16, .call 109 [(.t 15)], none, []⟩,
⟨some 14, .mv (.t 16), none, []⟩,
⟨some 17, .ext (.t 14) 0, none, []⟩,
⟨some 18, .ext (.t 14) 1, none, []⟩,
⟨some 7, .alloc [.d (.str []), .d (.str []), .nils], none, []⟩,
⟨none, .store 3 (.t 7) (.t 17), none, []⟩,
⟨some 8, .mv (.t 18), none, []⟩]
def f49.r2 : List IOper := [
⟨some 20, .mv (.t 1), none, []⟩,
⟨some 21, .call 109 [(.t 20)], none, []⟩,
⟨some 19, .mv (.t 21), none, []⟩,
⟨some 22, .ext (.t 19) 0, none, []⟩,
⟨some 23, .ext (.t 19) 1, none, []⟩,
⟨some 9, .alloc [.d (.str []), .d (.str []), .nils], none, []⟩,
⟨none, .store 3 (.t 9) (.t 22), none, []⟩,
⟨some 10, .mv (.t 23), none, []⟩]
def f49.r3 : List IOper := [
⟨some 25, .mv (.t 2), none, []⟩,
⟨some 26, .call 109 [(.t 25)], none, []⟩,
⟨some 24, .mv (.t 26), none, []⟩,
⟨some 27, .ext (.t 24) 0, none, []⟩,
⟨some 28, .ext (.t 24) 1, none, []⟩,
⟨some 11, .alloc [.d (.str []), .d (.str []), .nils], none, []⟩,
⟨none, .store 3 (.t 11) (.t 27), none, []⟩,
⟨some 12, .mv (.t 28), none, []⟩]
def f49.r4 : List IOper := [
⟨some 29, .build [.d (.str []), .d (.str []), .nils] [(0, 1, (.c (.d (.str [105, 110, 116]))))], none, []⟩,
⟨some 13, .alloc [.d (.str []), .d (.str []), .nils], none, []⟩,
⟨none, .store 3 (.t 13) (.t 29), none, []⟩]
def f49.r5 : List IOper := [
⟨some 30, .load 3 true (.t 7), none, []⟩,
⟨some 31, .load 3 true (.t 9), none, []⟩,
⟨some 32, .mkSlice 3 2 [.d (.str []), .d (.str []), .nils, .d (.str []), .d (.str []), .nils] [(0, 3, (.t 30)), (3, 3, (.t 31))], none, []⟩,
⟨some 33, .load 3 true (.t 13), none, []⟩,
⟨some 34, .load 3 true (.t 13), none, []⟩,
⟨some 35, .mkSlice 3 2 [.d (.str []), .d (.str []), .nils, .d (.str []), .d (.str []), .nils] [(0, 3, (.t 33)), (3, 3, (.t 34))], none, []⟩,
⟨some 36, .load 3 true (.t 11), none, []⟩,
⟨some 37, .load 3 true (.t 13), none, []⟩,
⟨some 38, .build [.d (.int .i64 0), .d (.int .i64 0), .d (.str []), .d (.str []), .nils, .d (.str []), .d (.str []), .nils, .nils, .nils, .d (.str []), .d (.str []), .nils, .d (.str []), .d (.str []), .nils, .d (.int .i64 0), .nils] [(0, 1, (.c (.d (.int .i64 2)))), (8, 1, (.t 32)), (9, 1, (.t 35)), (10, 3, (.t 36)), (13, 3, (.t 37))], none, []⟩,
⟨none, .store 18 (.t 6) (.t 38), none, []⟩]
def f49 : IFn := ⟨3, 39, [.cell 6 18 true], (.seq (.region f49.r0) (.seq (.region f49.r1) (.seq (.region f49.r2) (.seq (.region f49.r3) (.seq (.region f49.r4) (.seq (.region f49.r5) .ret))))))⟩
def f50.r0 : List IOper := [
⟨some 2, .box 2 (.t 0), none, []⟩,
⟨some 4, .alloc [.d (.str []), .nils], none, []⟩,
⟨some 5, .alloc [.d (.str []), .nils], none, []⟩,
⟨some 6, .mv (.c (.d (.int .i64 0))), none, []⟩]
def f50.r1 : List IOper := [
⟨some 9, .load 2 true (.t 2), none, []⟩,
⟨some 10, .call 59 [(.t 9)], none, []⟩,
⟨some 11, .un .not (.t 10), none, []⟩,
⟨some 8, .mv (.t 11), none, []⟩]
def f50.r2 : List IOper := [
⟨some 12, .build [.d (.str []), .nils] [], none, []⟩,
⟨some 13, .build [.d (.str []), .nils] [], none, []⟩,
⟨none, .store 2 (.t 4) (.t 12), none, []⟩,
⟨none, .store 2 (.t 5) (.t 13), none, []⟩,
⟨some 6, .mv (.c (.d (.int .i64 1))), none, []⟩]
def f50.r3 : List IOper := [
⟨some 15, .mv (.t 1), none, []⟩,
⟨some 16, .bin .lss (.t 15) (.c (.d (.int .i64 0))), none, []⟩,
⟨some 14, .mv (.t 16), none, []⟩]
def f50.r4 : List IOper := [
⟨some 17, .build [.d (.str []), .nils] [], none, []⟩,
⟨some 18, .build [.d (.str []), .nils] [], none, []⟩,
⟨none, .store 2 (.t 4) (.t 17), none, []⟩,
⟨none, .store 2 (.t 5) (.t 18), none, []⟩,
⟨some 6, .mv (.c (.d (.int .i64 2))), none, []⟩]
def f50.r5 : List IOper := [
⟨some 20, .mv (.t 1), none, []⟩,
⟨some 21, .faddr 1 1 (.t 2), none, []⟩,
⟨some 22, .load 1 false (.t 21), none, []⟩,
⟨some 23, .len .slice (.t 22), none, []⟩,
⟨some 24, .bin .gtr (.t 20) (.t 23), none, []⟩,
⟨some 19, .mv (.t 24), none, []⟩]
def f50.r6 : List IOper := [
⟨some 25, .build [.d (.str []), .nils] [], none, []⟩,
⟨some 26, .build [.d (.str []), .nils] [], none, []⟩,
⟨none, .store 2 (.t 4) (.t 25), none, []⟩,
⟨none, .store 2 (.t 5) (.t 26), none, []⟩,
⟨some 6, .mv (.c (.d (.int .i64 13))), none, []⟩]
def f50.r7 : List IOper := [
⟨some 27, .faddr 1 1 (.t 2), none, []⟩,
⟨some 28, .load 1 false (.t 27), none, []⟩,
⟨some 29, .len .slice (.t 28), none, []⟩,
⟨some 30, .mv (.t 1), none, []⟩,
⟨some 31, .bin .sub (.t 29) (.t 30), none, []⟩,
⟨some 7, .mv (.t 31), none, []⟩]
def f50.r8 : List IOper := [
⟨some 32, .faddr 0 1 (.t 2), none, []⟩,
⟨some 33, .load 1 false (.t 32), none, [0]⟩,
⟨some 34, .faddr 1 1 (.t 2), none, []⟩,
⟨some 35, .load 1 false (.t 34), none, [2]⟩,
⟨some 36, .mv (.t 7), none, []⟩,
⟨some 37, .lslice 2 (.t 35) none (some (.t 36)), none, [3, 4]⟩,
⟨some 38, .call 110 [(.t 37)], none, [5]⟩,
⟨some 39, .build [.d (.str []), .nils] [(0, 1, (.t 33)), (1, 1, (.t 38))], none, [1, 6]⟩,
⟨some 40, .faddr 1 1 (.t 2), none, []⟩,
⟨some 41, .load 1 false (.t 40), none, [8]⟩,
⟨some 42, .mv (.t 7), none, []⟩,
⟨some 43, .lslice 2 (.t 41) (some (.t 42)) none, none, [9, 10]⟩,
⟨some 44, .call 110 [(.t 43)], none, [11, 6]⟩,
⟨some 45, .build [.d (.str []), .nils] [(1, 1, (.t 44))], none, [12]⟩,
⟨none, .store 2 (.t 4) (.t 39), none, [7, 12, 0, 1, 2, 3, 4, 5, 6, 7]⟩,
⟨none, .store 2 (.t 5) (.t 45), none, [13, 14, 0, 1, 2, 3, 4, 5, 6, 7, 8, 9, 10, 11, 12, 13, 14]⟩,
⟨some 6, .mv (.c (.d (.int .i64 0))), none, [15, 0, 1, 2, 3, 4, 5, 6, 7, 8, 9, 10, 11, 12, 13, 14, 15]⟩]
def f50 : IFn := ⟨2, 46, [.cell 4 2 true, .cell 5 2 true, .t 6], (.seq (.region f50.r0) (.seq (.block 0 (.seq (.region f50.r1) (.cond (.t 8) (.seq (.region f50.r2) .ret) (.seq (.region f50.r3) (.cond (.t 14) (.seq (.region f50.r4) .ret) (.seq (.region f50.r5) (.cond (.t 19) (.seq (.region f50.r6) .ret) .skip))))))) (.seq (.region f50.r7) (.seq (.draw f50.r8) .ret))))⟩
def f51.r0 : List IOper := [
⟨some 1, .box 3 (.t 0), none, []⟩,
⟨some 2, .mv (.c (.d (.bool false))), none, []⟩]
def f51.r1 : List IOper := [
⟨some 3, .faddr 0 1 (.t 1), none, []⟩,
⟨some 4, .load 1 false (.t 3), none, []⟩,
⟨some 5, .bin .eql (.t 4) (.c (.d (.str [105, 110, 116]))), none, []⟩,
⟨some 6, .mv (.t 5), none, []⟩,
⟨some 7, .faddr 0 1 (.t 1), some (6, false), []⟩,
⟨some 8, .load 1 false (.t 7), some (6, false), []⟩,
⟨some 9, .bin .eql (.t 8) (.c (.d (.str [98, 111, 111, 108]))), some (6, false), []⟩,
⟨some 10, .pick (.t 6) (.c (.d (.bool true))) (.t 9), none, []⟩,
⟨some 11, .mv (.t 10), none, []⟩,
⟨some 12, .faddr 0 1 (.t 1), some (11, false), []⟩,
⟨some 13, .load 1 false (.t 12), some (11, false), []⟩,
⟨some 14, .call 111 [(.t 13)], some (11, false), []⟩,
⟨some 15, .pick (.t 11) (.c (.d (.bool true))) (.t 14), none, []⟩,
⟨some 16, .mv (.t 15), none, []⟩,
⟨some 17, .faddr 1 2 (.t 1), some (16, true), []⟩,
⟨some 18, .load 2 true (.t 17), some (16, true), []⟩,
⟨some 19, .call 59 [(.t 18)], some (16, true), []⟩,
⟨some 20, .pick (.t 16) (.t 19) (.c (.d (.bool false))), none, []⟩,
⟨some 2, .mv (.t 20), none, []⟩]
def f51 : IFn := ⟨1, 21, [.t 2], (.seq (.region f51.r0) (.seq (.region f51.r1) .ret))⟩
def f52.r0 : List IOper := [
⟨some 1, .box 3 (.t 0), none, []⟩,
⟨some 2, .mv (.c (.d (.bool false))), none, []⟩]
def f52.r1 : List IOper := [
⟨some 3, .load 3 true (.t 1), none, []⟩,
⟨some 4, .call 51 [(.t 3)], none, []⟩,
⟨some 5, .un .not (.t 4), none, []⟩,
⟨some 2, .mv (.t 5), none, []⟩]
def f52 : IFn := ⟨1, 6, [.t 2], (.seq (.region f52.r0) (.seq (.region f52.r1) .ret))⟩
def f53.r0 : List IOper := [
⟨some 4, .mv (.c (.d (.bool false))), none, []⟩]
def f53.r1 : List IOper := [
⟨some 5, .mv (.t 0), none, []⟩,
⟨some 6, .mv (.t 1), none, []⟩,
⟨some 7, .call 112 [(.t 5), (.t 6)], none, []⟩,
⟨some 8, .bin .geq (.t 7) (.c (.d (.int .i64 0))), none, []⟩,
⟨some 4, .mv (.t 8), none, []⟩]
def f53 : IFn := ⟨2, 9, [.t 4], (.seq (.region f53.r0) (.seq (.region f53.r1) .ret))⟩
def f54.r0 : List IOper := [
⟨some 2, .box 3 (.t 0), none, []⟩,
⟨some 3, .mv (.c (.d (.bool false))), none, []⟩]
def f54.r1 : List IOper := [
⟨some 4, .load 1 false (.t 1), none, []⟩,
⟨some 5, .load 3 true (.t 2), none, []⟩,
⟨some 6, .callv (.t 4) [(.t 5)], none, []⟩,
⟨some 7, .mv (.t 6), none, []⟩,
⟨some 8, .faddr 1 2 (.t 2), some (7, false), []⟩,
⟨some 9, .faddr 0 1 (.t 8), some (7, false), []⟩,
⟨some 10, .load 1 false (.t 9), some (7, false), []⟩,
⟨some 11, .bin .neq (.t 10) (.c (.d (.str []))), some (7, false), []⟩,
⟨some 12, .pick (.t 7) (.c (.d (.bool true))) (.t 11), none, []⟩,
⟨some 3, .mv (.t 12), none, []⟩]
def f54 : IFn := ⟨2, 13, [.t 3], (.seq (.region f54.r0) (.seq (.region f54.r1) .ret))⟩
def f55.r0 : List IOper := [
⟨some 1, .box 3 (.t 0), none, []⟩,
⟨some 2, .mv (.c (.d (.bool false))), none, []⟩]
def f55.r1 : List IOper := [
⟨some 3, .faddr 1 2 (.t 1), none, []⟩,
⟨some 4, .faddr 0 1 (.t 3), none, []⟩,
⟨some 5, .load 1 false (.t 4), none, []⟩,
⟨some 6, .bin .neq (.t 5) (.c (.d (.str []))), none, []⟩,
⟨some 2, .mv (.t 6), none, []⟩]
def f55 : IFn := ⟨1, 7, [.t 2], (.seq (.region f55.r0) (.seq (.region f55.r1) .ret))⟩
def f58.r0 : List IOper := [
⟨some 4, .mv (.c (.d (.bool false))), none, []⟩]
def f58.r1 : List IOper := [
⟨some 5, .mv (.t 0), none, []⟩,
⟨some 6, .mv (.t 1), none, []⟩,
⟨some 7, .call 114 [(.t 5), (.t 6)], none, []⟩,
⟨some 8, .bin .geq (.t 7) (.c (.d (.int .i64 0))), none, []⟩,
⟨some 4, .mv (.t 8), none, []⟩]
def f58 : IFn := ⟨2, 9, [.t 4], (.seq (.region f58.r0) (.seq (.region f58.r1) .ret))⟩
def f59.r0 : List IOper := [
⟨some 1, .box 2 (.t 0), none, []⟩,
⟨some 2, .mv (.c (.d (.bool false))), none, []⟩]
def f59.r1 : List IOper := [
⟨some 3, .faddr 0 1 (.t 1), none, []⟩,
⟨some 4, .load 1 false (.t 3), none, []⟩,
⟨some 5, .bin .eql (.t 4) (.c (.d (.str []))), none, []⟩,
⟨some 6, .mv (.t 5), none, []⟩,
⟨some 7, .faddr 0 1 (.t 1), some (6, false), []⟩,
⟨some 8, .load 1 false (.t 7), some (6, false), []⟩,
⟨some 9, .call 115 [(.t 8)], some (6, false), []⟩,
⟨some 10, .pick (.t 6) (.c (.d (.bool true))) (.t 9), none, []⟩,
⟨some 11, .mv (.t 10), none, []⟩,
⟨some 12, .faddr 1 1 (.t 1), some (11, true), []⟩,
⟨some 13, .load 1 false (.t 12), some (11, true), []⟩,
⟨some 14, .len .slice (.t 13), some (11, true), []⟩,
⟨some 15, .bin .leq (.t 14) (.c (.d (.int .i64 6))), some (11, true), []⟩,
⟨some 16, .pick (.t 11) (.t 15) (.c (.d (.bool false))), none, []⟩,
⟨some 17, .mv (.t 16), none, []⟩,
⟨some 18, .faddr 1 1 (.t 1), some (17, true), []⟩,
⟨some 19, .load 1 false (.t 18), some (17, true), []⟩,
⟨some 20, .call 116 [(.t 19), (.f 117)], some (17, true), []⟩,
⟨some 21, .un .not (.t 20), some (17, true), []⟩,
⟨some 22, .pick (.t 17) (.t 21) (.c (.d (.bool false))), none, []⟩,
⟨some 2, .mv (.t 22), none, []⟩]
def f59 : IFn := ⟨1, 23, [.t 2], (.seq (.region f59.r0) (.seq (.region f59.r1) .ret))⟩
def f60.r0 : List IOper := [
⟨some 2, .mv (.c (.nils)), none, []⟩]
def f60.r1 : List IOper := [
⟨some 3, .mv (.c (.d (.int .i64 0))), none, []⟩]
def f60.r2 : List IOper := [
⟨some 9, .mv (.t 0), none, []⟩,
⟨some 10, .len .slice (.t 9), none, []⟩,
⟨some 11, .mv (.c (.d (.int .i64 0))), none, []⟩]
def f60.r3 : List IOper := [
⟨some 12, .bin .lss (.t 11) (.t 10), none, []⟩]
def f60.r4 : List IOper := [
⟨some 13, .iaddr 1 (.t 9) (.t 11), none, []⟩,
⟨some 14, .load 1 false (.t 13), none, []⟩,
⟨some 5, .mv (.t 14), none, []⟩]
def f60.r5 : List IOper := [
⟨some 15, .mv (.t 3), none, []⟩,
⟨some 16, .mv (.t 5), none, []⟩,
⟨some 17, .len .slice (.t 16), none, []⟩,
⟨some 18, .bin .add (.t 15) (.t 17), none, []⟩,
⟨some 3, .mv (.t 18), none, []⟩]
def f60.r6 : List IOper := [
⟨some 19, .mv (.t 3), none, []⟩,
⟨some 20, .bin .lss (.t 19) (.c (.d (.int .i64 0))), none, []⟩]
def f60.r7 : List IOper := [
⟨some 21, .mkiface 9 (.c (.d (.str [108, 101, 110, 32, 111, 117, 116, 32, 111, 102, 32, 114, 97, 110, 103, 101]))), none, []⟩,
⟨none, .bad, none, []⟩]
def f60.r8 : List IOper := [
⟨some 22, .bin .add (.t 11) (.c (.d (.int .i64 1))), none, []⟩,
⟨some 11, .mv (.t 22), none, []⟩]
def f60.l9 : IR := (.seq (.region f60.r3) (.seq (.cond (.t 12) .skip (.exit 0)) (.seq (.block 1 (.seq (.region f60.r4) (.seq (.region f60.r5) (.seq (.region f60.r6) (.cond (.t 20) (.region f60.r7) .skip))))) (.region f60.r8))))
def f60.r10 : List IOper := [
⟨some 23, .mv (.t 3), none, []⟩,
⟨some 24, .call 118 [(.c (.nils)), (.t 23)], none, []⟩,
⟨some 6, .mv (.t 24), none, []⟩]
def f60.r11 : List IOper := [
⟨some 25, .mv (.t 0), none, []⟩,
⟨some 26, .len .slice (.t 25), none, []⟩,
⟨some 27, .mv (.c (.d (.int .i64 0))), none, []⟩]
def f60.r12 : List IOper := [
⟨some 28, .bin .lss (.t 27) (.t 26), none, []⟩]
def f60.r13 : List IOper := [
⟨some 29, .iaddr 1 (.t 25) (.t 27), none, []⟩,
⟨some 30, .load 1 false (.t 29), none, []⟩,
⟨some 8, .mv (.t 30), none, []⟩]
def f60.r14 : List IOper := [
⟨some 31, .mv (.t 6), none, []⟩,
⟨some 32, .mv (.t 8), none, []⟩,
⟨some 33, .append 3 56 (.t 31) (.t 32), none, []⟩,
⟨some 6, .mv (.t 33), none, []⟩]
def f60.r15 : List IOper := [
⟨some 34, .bin .add (.t 27) (.c (.d (.int .i64 1))), none, []⟩,
⟨some 27, .mv (.t 34), none, []⟩]
def f60.l16 : IR := (.seq (.region f60.r12) (.seq (.cond (.t 28) .skip (.exit 2)) (.seq (.block 3 (.seq (.region f60.r13) (.region f60.r14))) (.region f60.r15))))
def f60.r17 : List IOper := [
⟨some 35, .mv (.t 6), none, []⟩,
⟨some 2, .mv (.t 35), none, []⟩]
def f60 : IFn := ⟨1, 36, [.t 2], (.seq (.region f60.r0) (.seq (.region f60.r1) (.seq (.seq (.region f60.r2) (.block 0 (.loop f60.l9))) (.seq (.region f60.r10) (.seq (.seq (.region f60.r11) (.block 2 (.loop f60.l16))) (.seq (.region f60.r17) .ret))))))⟩
def f61.r0 : List IOper := [
⟨some 2, .box 2 (.t 0), none, []⟩,
⟨some 3, .box 3 (.t 1), none, []⟩,
⟨some 4, .alloc [.d (.str []), .d (.str []), .nils], none, []⟩,
⟨some 5, .mv (.c (.d (.int .i64 0))), none, []⟩]
def f61.r1 : List IOper := [
⟨some 9, .load 2 true (.t 2), none, []⟩,
⟨some 10, .faddr 1 2 (.t 3), none, []⟩,
⟨some 11, .load 2 true (.t 10), none, []⟩,
⟨some 12, .call 119 [(.t 9), (.t 11)], none, []⟩,
⟨some 8, .mv (.t 12), none, []⟩,
⟨some 13, .ext (.t 8) 0, none, []⟩,
⟨some 14, .ext (.t 8) 1, none, []⟩,
⟨some 6, .alloc [.d (.str []), .nils], none, []⟩,
⟨none, .store 2 (.t 6) (.t 13), none, []⟩,
⟨some 7, .mv (.t 14), none, []⟩]
def f61.r2 : List IOper := [
⟨some 15, .faddr 0 1 (.t 3), none, []⟩,
⟨some 16, .load 1 false (.t 15), none, []⟩,
⟨some 17, .load 2 true (.t 6), none, []⟩,
⟨some 18, .build [.d (.str []), .d (.str []), .nils] [(0, 1, (.t 16)), (1, 2, (.t 17))], none, []⟩,
⟨some 19, .mv (.t 7), none, []⟩,
⟨none, .store 3 (.t 4) (.t 18), none, []⟩,
⟨some 5, .mv (.t 19), none, []⟩]
def f61 : IFn := ⟨2, 20, [.cell 4 3 true, .t 5], (.seq (.region f61.r0) (.seq (.region f61.r1) (.seq (.region f61.r2) .ret)))⟩
def f66.r0 : List IOper := [
⟨some 4, .mv (.c (.d (.bool false))), none, []⟩]
def f66.r1 : List IOper := [
⟨some 5, .mv (.t 0), none, []⟩,
⟨some 6, .mv (.t 1), none, []⟩,
⟨some 7, .call 122 [(.t 5), (.t 6)], none, []⟩,
⟨some 8, .bin .geq (.t 7) (.c (.d (.int .i64 0))), none, []⟩,
⟨some 4, .mv (.t 8), none, []⟩]
def f66 : IFn := ⟨2, 9, [.t 4], (.seq (.region f66.r0) (.seq (.region f66.r1) .ret))⟩
def f67.r0 : List IOper := [
⟨some 1, .box 6 (.t 0), none, []⟩,
⟨some 2, .mv (.c (.d (.bool false))), none, []⟩]
def f67.r1 : List IOper := [
⟨some 3, .faddr 0 3 (.t 1), none, []⟩,
⟨some 4, .load 3 true (.t 3), none, []⟩,
⟨some 5, .faddr 3 3 (.t 1), none, []⟩,
⟨some 6, .load 3 true (.t 5), none, []⟩,
⟨some 7, .call 68 [(.t 4), (.t 6)], none, []⟩,
⟨some 8, .un .not (.t 7), none, []⟩,
⟨some 2, .mv (.t 8), none, []⟩]
def f67 : IFn := ⟨1, 9, [.t 2], (.seq (.region f67.r0) (.seq (.region f67.r1) .ret))⟩
def f68.r0 : List IOper := [
⟨some 2, .box 3 (.t 0), none, []⟩,
⟨some 3, .box 3 (.t 1), none, []⟩,
⟨some 4, .mv (.c (.d (.bool false))), none, []⟩]
def f68.r1 : List IOper := [
⟨some 5, .faddr 0 1 (.t 2), none, []⟩,
⟨some 6, .load 1 false (.t 5), none, []⟩,
⟨some 7, .faddr 0 1 (.t 3), none, []⟩,
⟨some 8, .load 1 false (.t 7), none, []⟩,
⟨some 9, .bin .eql (.t 6) (.t 8), none, []⟩,
⟨some 10, .mv (.t 9), none, []⟩,
⟨some 11, .faddr 1 2 (.t 2), some (10, true), []⟩,
⟨some 12, .load 2 true (.t 11), some (10, true), []⟩,
⟨some 13, .faddr 1 2 (.t 3), some (10, true), []⟩,
⟨some 14, .load 2 true (.t 13), some (10, true), []⟩,
⟨some 15, .call 123 [(.t 12), (.t 14)], some (10, true), []⟩,
⟨some 16, .pick (.t 10) (.t 15) (.c (.d (.bool false))), none, []⟩,
⟨some 4, .mv (.t 16), none, []⟩]
def f68 : IFn := ⟨2, 17, [.t 4], (.seq (.region f68.r0) (.seq (.region f68.r1) .ret))⟩
def f80.r0 : List IOper := [
⟨some 2, .mv (.c (.d (.bool false))), none, []⟩]
def f80.r1 : List IOper := [
⟨some 3, .mv (.t 0), none, []⟩,
⟨some 4, .bin .lss (.t 3) (.c (.d (.int .i64 0))), none, []⟩,
⟨some 2, .mv (.t 4), none, []⟩]
def f80 : IFn := ⟨1, 5, [.t 2], (.seq (.region f80.r0) (.seq (.region f80.r1) .ret))⟩
def f81.r0 : List IOper := [
⟨some 4, .mv (.c (.d (.bool false))), none, []⟩]
def f81.r1 : List IOper := [
⟨some 5, .mv (.t 0), none, []⟩,
⟨some 6, .mv (.t 1), none, []⟩,
⟨some 7, .call 139 [(.t 5), (.t 6)], none, []⟩,
⟨some 8, .bin .geq (.t 7) (.c (.d (.int .i64 0))), none, []⟩,
⟨some 4, .mv (.t 8), none, []⟩]
def f81 : IFn := ⟨2, 9, [.t 4], (.seq (.region f81.r0) (.seq (.region f81.r1) .ret))⟩
def f82.r0 : List IOper := [
⟨some 4, .mv (.c (.d (.bool false))), none, []⟩]
def f82.r1 : List IOper := [
⟨some 5, .mv (.t 0), none, []⟩,
⟨some 6, .mv (.t 1), none, []⟩,
⟨some 7, .call 140 [(.t 5), (.t 6)], none, []⟩,
⟨some 8, .bin .geq (.t 7) (.c (.d (.int .i64 0))), none, []⟩,
⟨some 4, .mv (.t 8), none, []⟩]
def f82 : IFn := ⟨2, 9, [.t 4], (.seq (.region f82.r0) (.seq (.region f82.r1) .ret))⟩
def f83.r0 : List IOper := [
⟨some 3, .mv (.c (.d (.bool false))), none, []⟩]
def f83.r1 : List IOper := [
⟨some 4, .mv (.t 0), none, []⟩,
⟨some 5, .load 1 false (.t 1), none, []⟩,
⟨some 6, .call 81 [(.t 4), (.t 5)], none, []⟩,
⟨some 3, .mv (.t 6), none, []⟩]
def f83 : IFn := ⟨2, 7, [.t 3], (.seq (.region f83.r0) (.seq (.region f83.r1) .ret))⟩
def f84.r0 : List IOper := [
⟨some 2, .mv (.c (.nils)), none, []⟩]
def f84.r1 : List IOper := [
⟨some 3, .mv (.t 0), none, []⟩,
⟨some 4, .eq false .slice (.t 3) (.c (.nils)), none, []⟩]
def f84.r2 : List IOper := [
⟨some 2, .mv (.c (.nils)), none, []⟩]
def f84.r3 : List IOper := [
⟨some 5, .mkSlice 1 0 [] [], none, []⟩,
⟨some 6, .mv (.t 0), none, []⟩,
⟨some 7, .append 1 8 (.t 5) (.t 6), none, []⟩,
⟨some 2, .mv (.t 7), none, []⟩]
def f84 : IFn := ⟨1, 8, [.t 2], (.seq (.region f84.r0) (.seq (.seq (.region f84.r1) (.cond (.t 4) (.seq (.region f84.r2) .ret) .skip)) (.seq (.region f84.r3) .ret)))⟩
def f85.r0 : List IOper := [
⟨some 4, .mv (.c (.d (.bool false))), none, []⟩]
def f85.r1 : List IOper := [
⟨some 6, .mv (.t 0), none, []⟩,
⟨some 7, .len .slice (.t 6), none, []⟩,
⟨some 8, .mv (.t 1), none, []⟩,
⟨some 9, .len .slice (.t 8), none, []⟩,
⟨some 10, .bin .neq (.t 7) (.t 9), none, []⟩]
def f85.r2 : List IOper := [
⟨some 4, .mv (.c (.d (.bool false))), none, []⟩]
def f85.r3 : List IOper := [
⟨some 11, .mv (.t 0), none, []⟩,
⟨some 12, .len .slice (.t 11), none, []⟩,
⟨some 13, .mv (.c (.d (.int .i64 0))), none, []⟩]
def f85.r4 : List IOper := [
⟨some 14, .bin .lss (.t 13) (.t 12), none, []⟩]
def f85.r5 : List IOper := [
⟨some 15, .mv (.t 13), none, []⟩,
⟨some 5, .mv (.t 15), none, []⟩]
def f85.r6 : List IOper := [
⟨some 16, .mv (.t 0), none, []⟩,
⟨some 17, .mv (.t 5), none, []⟩,
⟨some 18, .iaddr 1 (.t 16) (.t 17), none, [0, 1]⟩,
⟨some 19, .load 1 false (.t 18), none, [2]⟩,
⟨some 20, .mv (.t 1), none, []⟩,
⟨some 21, .mv (.t 5), none, []⟩,
⟨some 22, .iaddr 1 (.t 20) (.t 21), none, [4, 5]⟩,
⟨some 23, .load 1 false (.t 22), none, [6]⟩,
⟨some 24, .bin .neq (.t 19) (.t 23), none, [3, 7]⟩]
def f85.r7 : List IOper := [
⟨some 4, .mv (.c (.d (.bool false))), none, []⟩]
def f85.r8 : List IOper := [
⟨some 25, .bin .add (.t 13) (.c (.d (.int .i64 1))), none, []⟩,
⟨some 13, .mv (.t 25), none, []⟩]
def f85.l9 : IR := (.seq (.region f85.r4) (.seq (.cond (.t 14) .skip (.exit 0)) (.seq (.block 1 (.seq (.region f85.r5) (.seq (.draw f85.r6) (.cond (.t 24) (.seq (.region f85.r7) .ret) .skip)))) (.region f85.r8))))
def f85.r10 : List IOper := [
⟨some 4, .mv (.c (.d (.bool true))), none, []⟩]
def f85 : IFn := ⟨2, 26, [.t 4], (.seq (.region f85.r0) (.seq (.seq (.region f85.r1) (.cond (.t 10) (.seq (.region f85.r2) .ret) .skip)) (.seq (.seq (.region f85.r3) (.block 0 (.loop f85.l9))) (.seq (.region f85.r10) .ret))))⟩
def f89.r0 : List IOper := [
⟨some 1, .box 2 (.t 0), none, []⟩,
⟨some 2, .mv (.c (.d (.bool false))), none, []⟩]
def f89.r1 : List IOper := [
⟨some 5, .faddr 1 1 (.t 1), none, []⟩,
⟨some 6, .load 1 false (.t 5), none, []⟩,
⟨some 7, .len .slice (.t 6), none, []⟩,
⟨some 8, .mv (.c (.d (.int .i64 0))), none, []⟩]
def f89.r2 : List IOper := [
⟨some 9, .bin .lss (.t 8) (.t 7), none, []⟩]
def f89.r3 : List IOper := [
⟨some 10, .mv (.t 8), none, []⟩,
⟨some 11, .iaddr 2 (.t 6) (.t 8), none, []⟩,
⟨some 12, .load 2 true (.t 11), none, []⟩,
⟨some 4, .alloc [.d (.str []), .d (.int .i64 0)], none, []⟩,
⟨some 3, .mv (.t 10), none, []⟩,
⟨none, .store 2 (.t 4) (.t 12), none, []⟩]
def f89.r4 : List IOper := [
⟨some 13, .faddr 0 1 (.t 4), none, []⟩,
⟨some 14, .load 1 false (.t 13), none, [0]⟩,
⟨some 15, .call 115 [(.t 14)], none, [1]⟩,
⟨some 16, .un .not (.t 15), none, [2]⟩,
⟨some 17, .mv (.t 16), none, [3, 2]⟩,
⟨some 18, .faddr 1 1 (.t 4), some (17, false), [4]⟩,
⟨some 19, .load 1 false (.t 18), some (17, false), [5, 4]⟩,
⟨some 20, .bin .eql (.t 19) (.c (.d (.int .i64 0))), some (17, false), [6, 4]⟩,
⟨some 21, .pick (.t 17) (.c (.d (.bool true))) (.t 20), none, [4, 7]⟩,
⟨some 22, .mv (.t 21), none, [8, 4]⟩,
⟨some 23, .faddr 1 1 (.t 4), some (22, false), [9]⟩,
⟨some 24, .load 1 false (.t 23), some (22, false), [10, 9]⟩,
⟨some 25, .call 142 [(.t 24)], some (22, false), [11, 9, 9]⟩,
⟨some 26, .un .not (.t 25), some (22, false), [12, 9]⟩,
⟨some 27, .pick (.t 22) (.c (.d (.bool true))) (.t 26), none, [9, 13]⟩,
⟨some 28, .mv (.t 27), none, [14, 12]⟩,
⟨some 29, .mv (.t 3), some (28, false), [15]⟩,
⟨some 30, .bin .gtr (.t 29) (.c (.d (.int .i64 0))), some (28, false), [16, 15]⟩,
⟨some 31, .mv (.t 30), some (28, false), [17, 15, 15]⟩,
⟨some 32, .faddr 1 1 (.t 1), some (31, true), [18]⟩,
⟨some 33, .load 1 false (.t 32), some (31, true), [19, 18]⟩,
⟨some 34, .mv (.t 3), some (31, true), [18]⟩,
⟨some 35, .bin .sub (.t 34) (.c (.d (.int .i64 1))), some (31, true), [21, 18]⟩,
⟨some 36, .iaddr 2 (.t 33) (.t 35), some (31, true), [20, 22, 18]⟩,
⟨some 37, .faddr 0 1 (.t 36), some (31, true), [23, 18]⟩,
⟨some 38, .load 1 false (.t 37), some (31, true), [24, 18]⟩,
⟨some 39, .faddr 0 1 (.t 4), some (31, true), [18]⟩,
⟨some 40, .load 1 false (.t 39), some (31, true), [26, 18]⟩,
⟨some 41, .bin .geq (.t 38) (.t 40), some (31, true), [25, 27, 18]⟩,
⟨some 42, .pick (.t 31) (.t 41) (.c (.d (.bool false))), some (28, false), [18, 28, 15]⟩,
⟨some 43, .pick (.t 28) (.c (.d (.bool true))) (.t 42), none, [15, 29]⟩]
def f89.r5 : List IOper := [
⟨some 2, .mv (.c (.d (.bool false))), none, []⟩]
def f89.r6 : List IOper := [
⟨some 44, .bin .add (.t 8) (.c (.d (.int .i64 1))), none, []⟩,
⟨some 8, .mv (.t 44), none, []⟩]
def f89.l7 : IR := (.seq (.region f89.r2) (.seq (.cond (.t 9) .skip (.exit 0)) (.seq (.block 1 (.seq (.region f89.r3) (.seq (.draw f89.r4) (.cond (.t 43) (.seq (.region f89.r5) .ret) .skip)))) (.region f89.r6))))
def f89.r8 : List IOper := [
⟨some 45, .faddr 0 1 (.t 1), none, []⟩,
⟨some 46, .load 1 false (.t 45), none, []⟩,
⟨some 47, .call 142 [(.t 46)], none, []⟩,
⟨some 48, .mv (.t 47), none, []⟩,
⟨some 49, .faddr 1 1 (.t 1), some (48, true), []⟩,
⟨some 50, .load 1 false (.t 49), some (48, true), []⟩,
⟨some 51, .len .slice (.t 50), some (48, true), []⟩,
⟨some 52, .bin .leq (.t 51) (.c (.d (.int .i64 12))), some (48, true), []⟩,
⟨some 53, .pick (.t 48) (.t 52) (.c (.d (.bool false))), none, []⟩,
⟨some 2, .mv (.t 53), none, []⟩]
def f89 : IFn := ⟨1, 54, [.t 2], (.seq (.region f89.r0) (.seq (.seq (.region f89.r1) (.block 0 (.loop f89.l7))) (.seq (.region f89.r8) .ret)))⟩
def f104.r0 : List IOper := [
⟨some 3, .mv (.t 0), none, []⟩,
⟨some 4, .len .slice (.t 3), none, []⟩,
⟨some 2, .mv (.t 4), none, []⟩]
def f104.r1 : List IOper := [
⟨some 5, .mv (.t 0), none, []⟩,
⟨some 6, .mv (.t 2), none, []⟩,
⟨some 7, .mv (.t 2), none, []⟩,
⟨some 8, .conv .u64 (.t 7), none, []⟩,
⟨some 9, .call 158 [(.t 8)], none, []⟩,
⟨some 10, .call 157 [(.t 5), (.c (.d (.int .i64 0))), (.t 6), (.t 9)], none, []⟩]
def f104 : IFn := ⟨1, 11, [], (.seq (.region f104.r0) (.region f104.r1))⟩
def f109.r0 : List IOper := [
⟨some 2, .alloc [.d (.str []), .d (.str []), .nils], none, []⟩,
⟨some 3, .mv (.c (.d (.int .i64 0))), none, []⟩]
def f109.r1 : List IOper := [
⟨some 8, .mv (.t 0), none, []⟩,
⟨some 9, .build [.d (.str []), .d (.str []), .nils] [(0, 1, (.t 8))], none, []⟩,
⟨some 4, .alloc [.d (.str []), .d (.str []), .nils], none, []⟩,
⟨none, .store 3 (.t 4) (.t 9), none, []⟩]
def f109.r2 : List IOper := [
⟨some 10, .mv (.t 0), none, []⟩,
⟨some 11, .call 167 [(.t 10), (.c (.d (.int .u8 93)))], none, []⟩,
⟨some 5, .mv (.t 11), none, []⟩]
def f109.r3 : List IOper := [
⟨some 12, .mv (.t 5), none, []⟩,
⟨some 13, .bin .geq (.t 12) (.c (.d (.int .i64 0))), none, []⟩]
def f109.r4 : List IOper := [
⟨some 15, .mv (.t 0), none, []⟩,
⟨some 16, .mv (.t 5), none, []⟩,
⟨some 17, .bin .add (.t 16) (.c (.d (.int .i64 1))), none, []⟩,
⟨some 18, .sslice (.t 15) none (some (.t 17)), none, []⟩,
⟨some 19, .call 168 [(.t 18)], none, []⟩,
⟨some 14, .mv (.t 19), none, []⟩,
⟨some 20, .ext (.t 14) 0, none, []⟩,
⟨some 21, .ext (.t 14) 1, none, []⟩,
⟨some 6, .alloc [.d (.str []), .nils], none, []⟩,
⟨none, .store 2 (.t 6) (.t 20), none, []⟩,
⟨some 7, .mv (.t 21), none, []⟩]
def f109.r5 : List IOper := [
⟨some 22, .mv (.t 7), none, []⟩,
⟨some 23, .bin .neq (.t 22) (.c (.d (.int .i64 0))), none, []⟩]
def f109.r6 : List IOper := [
⟨some 24, .build [.d (.str []), .d (.str []), .nils] [], none, []⟩,
⟨none, .store 3 (.t 2) (.t 24), none, []⟩,
⟨some 3, .mv (.c (.d (.int .i64 6))), none, []⟩]
def f109.r7 : List IOper := [
⟨some 25, .mv (.t 0), none, []⟩,
⟨some 26, .mv (.t 5), none, []⟩,
⟨some 27, .bin .add (.t 26) (.c (.d (.int .i64 1))), none, [1]⟩,
⟨some 28, .sslice (.t 25) (some (.t 27)) none, none, [0, 2]⟩,
⟨some 29, .load 2 true (.t 6), none, []⟩,
⟨some 30, .build [.d (.str []), .d (.str []), .nils] [(0, 1, (.t 28)), (1, 2, (.t 29))], none, [3, 4]⟩,
⟨none, .store 3 (.t 4) (.t 30), none, [5, 0, 1, 2, 3, 4, 5]⟩]
def f109.r8 : List IOper := [
⟨some 31, .load 3 true (.t 4), none, []⟩,
⟨some 32, .call 51 [(.t 31)], none, []⟩,
⟨some 33, .un .not (.t 32), none, []⟩,
⟨some 34, .mv (.t 33), none, []⟩,
⟨some 35, .load 3 true (.t 4), some (34, false), []⟩,
⟨some 36, .call 169 [(.t 35)], some (34, false), []⟩,
⟨some 37, .mv (.t 0), some (34, false), []⟩,
⟨some 38, .bin .neq (.t 36) (.t 37), some (34, false), []⟩,
⟨some 39, .pick (.t 34) (.c (.d (.bool true))) (.t 38), none, []⟩]
def f109.r9 : List IOper := [
⟨some 40, .build [.d (.str []), .d (.str []), .nils] [], none, []⟩,
⟨none, .store 3 (.t 2) (.t 40), none, []⟩,
⟨some 3, .mv (.c (.d (.int .i64 6))), none, []⟩]
def f109.r10 : List IOper := [
⟨some 41, .load 3 true (.t 4), none, []⟩,
⟨none, .store 3 (.t 2) (.t 41), none, []⟩,
⟨some 3, .mv (.c (.d (.int .i64 0))), none, []⟩]
def f109 : IFn := ⟨1, 42, [.cell 2 3 true, .t 3], (.seq (.region f109.r0) (.seq (.region f109.r1) (.seq (.seq (.region f109.r2) (.seq (.region f109.r3) (.cond (.t 13) (.seq (.region f109.r4) (.seq (.seq (.region f109.r5) (.cond (.t 23) (.seq (.region f109.r6) .ret) .skip)) (.draw f109.r7))) .skip))) (.seq (.seq (.region f109.r8) (.cond (.t 39) (.seq (.region f109.r9) .ret) .skip)) (.seq (.region f109.r10) .ret)))))⟩
def f110.r0 : List IOper := [
⟨some 2, .mv (.c (.nils)), none, []⟩]
def f110.r1 : List IOper := [
⟨some 3, .mv (.c (.nils)), none, []⟩]
def f110.r2 : List IOper := [
⟨some 6, .mv (.t 0), none, []⟩,
⟨some 7, .len .slice (.t 6), none, []⟩,
⟨some 8, .mv (.c (.d (.int .i64 0))), none, []⟩]
def f110.r3 : List IOper := [
⟨some 9, .bin .lss (.t 8) (.t 7), none, []⟩]
def f110.r4 : List IOper := [
⟨some 10, .iaddr 2 (.t 6) (.t 8), none, []⟩,
⟨some 11, .load 2 true (.t 10), none, []⟩,
⟨some 5, .alloc [.d (.int .i64 0), .nils], none, []⟩,
⟨none, .store 2 (.t 5) (.t 11), none, []⟩]
def f110.r5 : List IOper := [
⟨some 12, .mv (.t 3), none, []⟩,
⟨some 13, .faddr 0 1 (.t 5), none, []⟩,
⟨some 14, .load 1 false (.t 13), none, [1]⟩,
⟨some 15, .faddr 1 1 (.t 5), none, []⟩,
⟨some 16, .load 1 false (.t 15), none, [3]⟩,
⟨some 17, .call 170 [(.t 16)], none, [4]⟩,
⟨some 18, .build [.d (.int .i64 0), .nils] [(0, 1, (.t 14)), (1, 1, (.t 17))], none, [2, 5]⟩,
⟨some 19, .mkSlice 2 1 [.d (.int .i64 0), .nils] [(0, 2, (.t 18))], none, [6]⟩,
⟨some 20, .append 2 32 (.t 12) (.t 19), none, [0, 7, 5]⟩,
⟨some 3, .mv (.t 20), none, [8, 8, 0, 1, 2, 3, 4, 5, 6, 7, 8]⟩]
def f110.r6 : List IOper := [
⟨some 21, .bin .add (.t 8) (.c (.d (.int .i64 1))), none, []⟩,
⟨some 8, .mv (.t 21), none, []⟩]
def f110.l7 : IR := (.seq (.region f110.r3) (.seq (.cond (.t 9) .skip (.exit 0)) (.seq (.block 1 (.seq (.region f110.r4) (.draw f110.r5))) (.region f110.r6))))
def f110.r8 : List IOper := [
⟨some 22, .mv (.t 3), none, []⟩,
⟨some 2, .mv (.t 22), none, []⟩]
def f110 : IFn := ⟨1, 23, [.t 2], (.seq (.region f110.r0) (.seq (.region f110.r1) (.seq (.seq (.region f110.r2) (.block 0 (.loop f110.l7))) (.seq (.region f110.r8) .ret))))⟩
def f111.r0 : List IOper := [
⟨some 2, .mv (.c (.d (.bool false))), none, []⟩]
def f111.r1 : List IOper := [
⟨some 3, .mv (.t 0), none, []⟩,
⟨some 4, .len .str (.t 3), none, []⟩,
⟨some 5, .bin .lss (.t 4) (.c (.d (.int .i64 1))), none, []⟩,
⟨some 6, .mv (.t 5), none, []⟩,
⟨some 7, .mv (.t 0), some (6, false), []⟩,
⟨some 8, .len .str (.t 7), some (6, false), []⟩,
⟨some 9, .bin .gtr (.t 8) (.c (.d (.int .i64 30))), some (6, false), []⟩,
⟨some 10, .pick (.t 6) (.c (.d (.bool true))) (.t 9), none, []⟩,
⟨some 11, .mv (.t 10), none, []⟩,
⟨some 12, .mv (.t 0), some (11, false), []⟩,
⟨some 13, .idxS (.t 12) (.c (.d (.int .i64 0))), some (11, false), []⟩,
⟨some 14, .bin .lss (.t 13) (.c (.d (.int .u8 65))), some (11, false), []⟩,
⟨some 15, .pick (.t 11) (.c (.d (.bool true))) (.t 14), none, []⟩,
⟨some 16, .mv (.t 15), none, []⟩,
⟨some 17, .mv (.t 0), some (16, false), []⟩,
⟨some 18, .idxS (.t 17) (.c (.d (.int .i64 0))), some (16, false), []⟩,
⟨some 19, .bin .gtr (.t 18) (.c (.d (.int .u8 90))), some (16, false), []⟩,
⟨some 20, .pick (.t 16) (.c (.d (.bool true))) (.t 19), none, []⟩]
def f111.r2 : List IOper := [
⟨some 2, .mv (.c (.d (.bool false))), none, []⟩]
def f111.r3 : List IOper := [
⟨some 21, .mv (.t 0), none, []⟩,
⟨some 22, .sslice (.t 21) (some (.c (.d (.int .i64 1)))) none, none, []⟩,
⟨some 23, .call 171 [(.t 22), (.c (.d (.str [48, 49, 50, 51, 52, 53, 54, 55, 56, 57])))], none, []⟩,
⟨some 24, .bin .eql (.t 23) (.c (.d (.str []))), none, []⟩,
⟨some 2, .mv (.t 24), none, []⟩]
def f111 : IFn := ⟨1, 25, [.t 2], (.seq (.region f111.r0) (.seq (.seq (.region f111.r1) (.cond (.t 20) (.seq (.region f111.r2) .ret) .skip)) (.seq (.region f111.r3) .ret)))⟩
def f112.r0 : List IOper := [
⟨some 4, .mv (.c (.d (.int .i64 0))), none, []⟩]
def f112.r1 : List IOper := [
⟨some 6, .mv (.t 0), none, []⟩,
⟨some 7, .len .slice (.t 6), none, []⟩,
⟨some 8, .mv (.c (.d (.int .i64 0))), none, []⟩]
def f112.r2 : List IOper := [
⟨some 9, .bin .lss (.t 8) (.t 7), none, []⟩]
def f112.r3 : List IOper := [
⟨some 10, .mv (.t 8), none, []⟩,
⟨some 5, .mv (.t 10), none, []⟩]
def f112.r4 : List IOper := [
⟨some 11, .mv (.t 1), none, []⟩,
⟨some 12, .mv (.t 0), none, []⟩,
⟨some 13, .mv (.t 5), none, []⟩,
⟨some 14, .iaddr 3 (.t 12) (.t 13), none, []⟩,
⟨some 15, .load 3 true (.t 14), none, []⟩,
⟨some 16, .callv (.t 11) [(.t 15)], none, []⟩]
def f112.r5 : List IOper := [
⟨some 17, .mv (.t 5), none, []⟩,
⟨some 4, .mv (.t 17), none, []⟩]
def f112.r6 : List IOper := [
⟨some 18, .bin .add (.t 8) (.c (.d (.int .i64 1))), none, []⟩,
⟨some 8, .mv (.t 18), none, []⟩]
def f112.l7 : IR := (.seq (.region f112.r2) (.seq (.cond (.t 9) .skip (.exit 0)) (.seq (.block 1 (.seq (.region f112.r3) (.seq (.region f112.r4) (.cond (.t 16) (.seq (.region f112.r5) .ret) .skip)))) (.region f112.r6))))
def f112.r8 : List IOper := [
⟨some 4, .mv (.c (.d (.int .i64 (-1)))), none, []⟩]
def f112 : IFn := ⟨2, 19, [.t 4], (.seq (.region f112.r0) (.seq (.seq (.region f112.r1) (.block 0 (.loop f112.l7))) (.seq (.region f112.r8) .ret)))⟩
def f114.r0 : List IOper := [
⟨some 4, .mv (.c (.d (.int .i64 0))), none, []⟩]
def f114.r1 : List IOper := [
⟨some 6, .mv (.t 0), none, []⟩,
⟨some 7, .len .slice (.t 6), none, []⟩,
⟨some 8, .mv (.c (.d (.int .i64 0))), none, []⟩]
def f114.r2 : List IOper := [
⟨some 9, .bin .lss (.t 8) (.t 7), none, []⟩]
def f114.r3 : List IOper := [
⟨some 10, .mv (.t 8), none, []⟩,
⟨some 5, .mv (.t 10), none, []⟩]
def f114.r4 : List IOper := [
⟨some 11, .mv (.t 1), none, []⟩,
⟨some 12, .mv (.t 0), none, []⟩,
⟨some 13, .mv (.t 5), none, []⟩,
⟨some 14, .iaddr 1 (.t 12) (.t 13), none, []⟩,
⟨some 15, .load 1 false (.t 14), none, []⟩,
⟨some 16, .eq false .bool (.t 11) (.t 15), none, []⟩]
def f114.r5 : List IOper := [
⟨some 17, .mv (.t 5), none, []⟩,
⟨some 4, .mv (.t 17), none, []⟩]
def f114.r6 : List IOper := [
⟨some 18, .bin .add (.t 8) (.c (.d (.int .i64 1))), none, []⟩,
⟨some 8, .mv (.t 18), none, []⟩]
def f114.l7 : IR := (.seq (.region f114.r2) (.seq (.cond (.t 9) .skip (.exit 0)) (.seq (.block 1 (.seq (.region f114.r3) (.seq (.region f114.r4) (.cond (.t 16) (.seq (.region f114.r5) .ret) .skip)))) (.region f114.r6))))
def f114.r8 : List IOper := [
⟨some 4, .mv (.c (.d (.int .i64 (-1)))), none, []⟩]
def f114 : IFn := ⟨2, 19, [.t 4], (.seq (.region f114.r0) (.seq (.seq (.region f114.r1) (.block 0 (.loop f114.l7))) (.seq (.region f114.r8) .ret)))⟩
def f115.r0 : List IOper := [
⟨some 2, .mv (.c (.d (.bool false))), none, []⟩]
def f115.r1 : List IOper := [
⟨some 7, .mv (.t 0), none, []⟩,
⟨some 8, .call 172 [(.t 7), (.c (.d (.str [95])))], none, []⟩]
def f115.r2 : List IOper := [
⟨some 10, .mv (.t 0), none, []⟩,
⟨some 11, .sslice (.t 10) (some (.c (.d (.int .i64 1)))) none, none, []⟩,
⟨some 12, .call 173 [(.t 11)], none, []⟩,
⟨some 9, .mv (.t 12), none, []⟩,
⟨some 13, .ext (.t 9) 0, none, []⟩,
⟨some 14, .ext (.t 9) 1, none, []⟩,
⟨some 3, .mv (.t 13), none, []⟩,
⟨some 4, .mv (.t 14), none, []⟩]
def f115.r3 : List IOper := [
⟨some 15, .mv (.t 4), none, []⟩,
⟨some 16, .eq false .iface (.t 15) (.c (.nili)), none, [0]⟩,
⟨some 17, .mv (.t 16), none, [1]⟩,
⟨some 18, .mv (.t 3), some (17, true), [2]⟩,
⟨some 19, .bin .gtr (.t 18) (.c (.d (.int .i64 0))), some (17, true), [3, 2]⟩,
⟨some 20, .pick (.t 17) (.t 19) (.c (.d (.bool false))), none, [2, 4]⟩,
⟨some 21, .mv (.t 20), none, [5, 2]⟩,
⟨some 22, .mv (.t 0), some (21, true), [6]⟩,
⟨some 23, .len .str (.t 22), some (21, true), [7, 6]⟩,
⟨some 24, .bin .leq (.t 23) (.c (.d (.int .i64 10))), some (21, true), [8, 6]⟩,
⟨some 25, .pick (.t 21) (.t 24) (.c (.d (.bool false))), none, [6, 9]⟩,
⟨some 26, .mv (.t 25), none, [10, 6]⟩,
⟨some 27, .mv (.t 3), some (26, true), [11]⟩,
⟨some 28, .call 107 [(.t 27)], some (26, true), [12, 11, 11]⟩,
⟨some 29, .mv (.t 0), some (26, true), [11]⟩,
⟨some 30, .sslice (.t 29) (some (.c (.d (.int .i64 1)))) none, some (26, true), [14, 11]⟩,
⟨some 31, .bin .eql (.t 28) (.t 30), some (26, true), [13, 15, 11]⟩,
⟨some 32, .pick (.t 26) (.t 31) (.c (.d (.bool false))), none, [11, 16]⟩,
⟨some 2, .mv (.t 32), none, [17, 13, 0, 1, 2, 3, 4, 5, 6, 7, 8, 9, 10, 11, 12, 13, 14, 15, 16, 17]⟩]
def f115.r4 : List IOper := [
⟨some 33, .mv (.t 0), none, []⟩,
⟨some 34, .strToBytes (.t 33), none, []⟩,
⟨some 35, .len .slice (.t 34), none, []⟩,
⟨some 36, .mv (.c (.d (.int .i64 0))), none, []⟩]
def f115.r5 : List IOper := [
⟨some 37, .bin .lss (.t 36) (.t 35), none, []⟩]
def f115.r6 : List IOper := [
⟨some 38, .mv (.t 36), none, []⟩,
⟨some 39, .iaddr 1 (.t 34) (.t 36), none, []⟩,
⟨some 40, .load 1 false (.t 39), none, []⟩,
⟨some 5, .mv (.t 38), none, []⟩,
⟨some 6, .mv (.t 40), none, []⟩]
def f115.r7 : List IOper := [
⟨some 41, .mv (.t 6), none, []⟩,
⟨some 42, .bin .lss (.t 41) (.c (.d (.int .u8 97))), none, []⟩,
⟨some 43, .mv (.t 42), none, []⟩,
⟨some 44, .mv (.t 6), some (43, false), []⟩,
⟨some 45, .bin .gtr (.t 44) (.c (.d (.int .u8 122))), some (43, false), []⟩,
⟨some 46, .pick (.t 43) (.c (.d (.bool true))) (.t 45), none, []⟩,
⟨some 47, .mv (.t 46), none, []⟩,
⟨some 48, .mv (.t 5), some (47, true), []⟩,
⟨some 49, .bin .eql (.t 48) (.c (.d (.int .i64 0))), some (47, true), []⟩,
⟨some 50, .mv (.t 49), some (47, true), []⟩,
⟨some 51, .mv (.t 6), some (50, false), []⟩,
⟨some 52, .bin .lss (.t 51) (.c (.d (.int .u8 48))), some (50, false), []⟩,
⟨some 53, .pick (.t 50) (.c (.d (.bool true))) (.t 52), some (47, true), []⟩,
⟨some 54, .mv (.t 53), some (47, true), []⟩,
⟨some 55, .mv (.t 6), some (54, false), []⟩,
⟨some 56, .bin .gtr (.t 55) (.c (.d (.int .u8 57))), some (54, false), []⟩,
⟨some 57, .pick (.t 54) (.c (.d (.bool true))) (.t 56), some (47, true), []⟩,
⟨some 58, .pick (.t 47) (.t 57) (.c (.d (.bool false))), none, []⟩]
def f115.r8 : List IOper := [
⟨some 2, .mv (.c (.d (.bool false))), none, []⟩]
def f115.r9 : List IOper := [
⟨some 59, .bin .add (.t 36) (.c (.d (.int .i64 1))), none, []⟩,
⟨some 36, .mv (.t 59), none, []⟩]
def f115.l10 : IR := (.seq (.region f115.r5) (.seq (.cond (.t 37) .skip (.exit 0)) (.seq (.block 1 (.seq (.region f115.r6) (.seq (.region f115.r7) (.cond (.t 58) (.seq (.region f115.r8) .ret) .skip)))) (.region f115.r9))))
def f115.r11 : List IOper := [
⟨some 60, .mv (.t 0), none, []⟩,
⟨some 61, .bin .neq (.t 60) (.c (.d (.str []))), none, []⟩,
⟨some 62, .mv (.t 61), none, []⟩,
⟨some 63, .mv (.t 0), some (62, true), []⟩,
⟨some 64, .len .str (.t 63), some (62, true), []⟩,
⟨some 65, .bin .leq (.t 64) (.c (.d (.int .i64 30))), some (62, true), []⟩,
⟨some 66, .pick (.t 62) (.t 65) (.c (.d (.bool false))), none, []⟩,
⟨some 2, .mv (.t 66), none, []⟩]
def f115 : IFn := ⟨1, 67, [.t 2], (.seq (.region f115.r0) (.seq (.seq (.region f115.r1) (.cond (.t 8) (.seq (.region f115.r2) (.seq (.draw f115.r3) .ret)) .skip)) (.seq (.seq (.region f115.r4) (.block 0 (.loop f115.l10))) (.seq (.region f115.r11) .ret))))⟩
def f116.r0 : List IOper := [
⟨some 4, .mv (.c (.d (.bool false))), none, []⟩]
def f116.r1 : List IOper := [
⟨some 5, .mv (.t 0), none, []⟩,
⟨some 6, .mv (.t 1), none, []⟩,
⟨some 7, .call 174 [(.t 5), (.t 6)], none, []⟩,
⟨some 8, .bin .geq (.t 7) (.c (.d (.int .i64 0))), none, []⟩,
⟨some 4, .mv (.t 8), none, []⟩]
def f116 : IFn := ⟨2, 9, [.t 4], (.seq (.region f116.r0) (.seq (.region f116.r1) .ret))⟩
def f117.r0 : List IOper := [
⟨some 1, .box 2 (.t 0), none, []⟩,
⟨some 2, .mv (.c (.d (.bool false))), none, []⟩]
def f117.r1 : List IOper := [
⟨some 3, .load 2 true (.t 1), none, []⟩,
⟨some 4, .call 89 [(.t 3)], none, []⟩,
⟨some 5, .un .not (.t 4), none, []⟩,
⟨some 2, .mv (.t 5), none, []⟩]
def f117 : IFn := ⟨1, 6, [.t 2], (.seq (.region f117.r0) (.seq (.region f117.r1) .ret))⟩
def f118.r0 : List IOper := [
⟨some 4, .mv (.c (.nils)), none, []⟩]
def f118.r1 : List IOper := [
⟨some 5, .mv (.t 1), none, []⟩,
⟨some 6, .bin .lss (.t 5) (.c (.d (.int .i64 0))), none, []⟩]
def f118.r2 : List IOper := [
⟨some 7, .mkiface 9 (.c (.d (.str [99, 97, 110, 110, 111, 116, 32, 98, 101, 32, 110, 101, 103, 97, 116, 105, 118, 101]))), none, []⟩,
⟨none, .bad, none, []⟩]
def f118.r3 : List IOper := [
⟨some 8, .mv (.t 1), none, []⟩,
⟨some 9, .mv (.t 0), none, []⟩,
⟨some 10, .cap (.t 9), none, []⟩,
⟨some 11, .mv (.t 0), none, []⟩,
⟨some 12, .len .slice (.t 11), none, []⟩,
⟨some 13, .bin .sub (.t 10) (.t 12), none, []⟩,
⟨some 14, .bin .sub (.t 8) (.t 13), none, []⟩,
⟨some 1, .mv (.t 14), none, []⟩]
def f118.r4 : List IOper := [
⟨some 15, .mv (.t 1), none, []⟩,
⟨some 16, .bin .gtr (.t 15) (.c (.d (.int .i64 0))), none, []⟩]
def f118.r5 : List IOper := [
⟨some 17, .mv (.t 0), none, []⟩,
⟨some 18, .mv (.t 0), none, []⟩,
⟨some 19, .cap (.t 18), none, []⟩,
⟨some 20, .lslice 3 (.t 17) none (some (.t 19)), none, []⟩,
⟨some 21, .mv (.t 1), none, []⟩,
⟨some 22, .appendN 3 56 [.d (.str []), .d (.str []), .nils] (.t 20) (.t 21), none, []⟩,
⟨some 23, .mv (.t 0), none, []⟩,
⟨some 24, .len .slice (.t 23), none, []⟩,
⟨some 25, .lslice 3 (.t 22) none (some (.t 24)), none, []⟩,
⟨some 0, .mv (.t 25), none, []⟩]
def f118.r6 : List IOper := [
⟨some 26, .mv (.t 0), none, []⟩,
⟨some 4, .mv (.t 26), none, []⟩]
def f118 : IFn := ⟨2, 27, [.t 4], (.seq (.region f118.r0) (.seq (.seq (.region f118.r1) (.cond (.t 6) (.region f118.r2) .skip)) (.seq (.seq (.region f118.r3) (.seq (.region f118.r4) (.cond (.t 16) (.region f118.r5) .skip))) (.seq (.region f118.r6) .ret))))⟩
def f119.r0 : List IOper := [
⟨some 2, .box 2 (.t 0), none, []⟩,
⟨some 3, .box 2 (.t 1), none, []⟩,
⟨some 4, .alloc [.d (.str []), .nils], none, []⟩,
⟨some 5, .mv (.c (.d (.int .i64 0))), none, []⟩]
def f119.r1 : List IOper := [
⟨some 7, .load 2 true (.t 2), none, []⟩,
⟨some 8, .call 59 [(.t 7)], none, []⟩,
⟨some 9, .un .not (.t 8), none, []⟩,
⟨some 10, .mv (.t 9), none, []⟩,
⟨some 11, .load 2 true (.t 3), some (10, false), []⟩,
⟨some 12, .call 59 [(.t 11)], some (10, false), []⟩,
⟨some 13, .un .not (.t 12), some (10, false), []⟩,
⟨some 14, .pick (.t 10) (.c (.d (.bool true))) (.t 13), none, []⟩,
⟨some 6, .mv (.t 14), none, []⟩]
def f119.r2 : List IOper := [
⟨some 15, .build [.d (.str []), .nils] [], none, []⟩,
⟨none, .store 2 (.t 4) (.t 15), none, []⟩,
⟨some 5, .mv (.c (.d (.int .i64 1))), none, []⟩]
def f119.r3 : List IOper := [
⟨some 17, .faddr 0 1 (.t 3), none, []⟩,
⟨some 18, .load 1 false (.t 17), none, []⟩,
⟨some 19, .bin .neq (.t 18) (.c (.d (.str []))), none, []⟩,
⟨some 16, .mv (.t 19), none, []⟩]
def f119.r4 : List IOper := [
⟨some 20, .build [.d (.str []), .nils] [], none, []⟩,
⟨none, .store 2 (.t 4) (.t 20), none, []⟩,
⟨some 5, .mv (.c (.d (.int .i64 13))), none, []⟩]
def f119.r5 : List IOper := [
⟨some 21, .faddr 0 1 (.t 2), none, []⟩,
⟨some 22, .load 1 false (.t 21), none, [0]⟩,
⟨some 23, .faddr 1 1 (.t 2), none, []⟩,
⟨some 24, .load 1 false (.t 23), none, [2]⟩,
⟨some 25, .faddr 1 1 (.t 3), none, []⟩,
⟨some 26, .load 1 false (.t 25), none, [4]⟩,
⟨some 27, .mkSlice 1 2 [.nils, .nils] [(0, 1, (.t 24)), (1, 1, (.t 26))], none, [3, 5]⟩,
⟨some 28, .call 176 [(.t 27)], none, [6]⟩,
⟨some 29, .call 175 [(.t 22), (.t 28)], none, [1, 7, 7]⟩,
⟨some 30, .ext (.t 29) 0, none, [8]⟩,
⟨some 31, .ext (.t 29) 1, none, [8]⟩,
⟨none, .store 2 (.t 4) (.t 30), none, [9, 8, 0, 1, 2, 3, 4, 5, 6, 7, 8, 9, 10]⟩,
⟨some 5, .mv (.t 31), none, [10, 11, 0, 1, 2, 3, 4, 5, 6, 7, 8, 9, 10, 11]⟩]
def f119 : IFn := ⟨2, 32, [.cell 4 2 true, .t 5], (.seq (.region f119.r0) (.seq (.block 0 (.seq (.region f119.r1) (.cond (.t 6) (.seq (.region f119.r2) .ret) (.seq (.region f119.r3) (.cond (.t 16) (.seq (.region f119.r4) .ret) .skip))))) (.seq (.draw f119.r5) .ret)))⟩
def f122.r0 : List IOper := [
⟨some 4, .mv (.c (.d (.int .i64 0))), none, []⟩]
def f122.r1 : List IOper := [
⟨some 6, .mv (.t 0), none, []⟩,
⟨some 7, .len .slice (.t 6), none, []⟩,
⟨some 8, .mv (.c (.d (.int .i64 0))), none, []⟩]
def f122.r2 : List IOper := [
⟨some 9, .bin .lss (.t 8) (.t 7), none, []⟩]
def f122.r3 : List IOper := [
⟨some 10, .mv (.t 8), none, []⟩,
⟨some 5, .mv (.t 10), none, []⟩]
def f122.r4 : List IOper := [
⟨some 11, .mv (.t 1), none, []⟩,
⟨some 12, .mv (.t 0), none, []⟩,
⟨some 13, .mv (.t 5), none, []⟩,
⟨some 14, .iaddr 6 (.t 12) (.t 13), none, []⟩,
⟨some 15, .load 6 true (.t 14), none, []⟩,
⟨some 16, .callv (.t 11) [(.t 15)], none, []⟩]
def f122.r5 : List IOper := [
⟨some 17, .mv (.t 5), none, []⟩,
⟨some 4, .mv (.t 17), none, []⟩]
def f122.r6 : List IOper := [
⟨some 18, .bin .add (.t 8) (.c (.d (.int .i64 1))), none, []⟩,
⟨some 8, .mv (.t 18), none, []⟩]
def f122.l7 : IR := (.seq (.region f122.r2) (.seq (.cond (.t 9) .skip (.exit 0)) (.seq (.block 1 (.seq (.region f122.r3) (.seq (.region f122.r4) (.cond (.t 16) (.seq (.region f122.r5) .ret) .skip)))) (.region f122.r6))))
def f122.r8 : List IOper := [
⟨some 4, .mv (.c (.d (.int .i64 (-1)))), none, []⟩]
def f122 : IFn := ⟨2, 19, [.t 4], (.seq (.region f122.r0) (.seq (.seq (.region f122.r1) (.block 0 (.loop f122.l7))) (.seq (.region f122.r8) .ret)))⟩
def f123.r0 : List IOper := [
⟨some 2, .box 2 (.t 0), none, []⟩,
⟨some 3, .box 2 (.t 1), none, []⟩,
⟨some 4, .mv (.c (.d (.bool false))), none, []⟩]
def f123.r1 : List IOper := [
⟨some 5, .faddr 0 1 (.t 2), none, []⟩,
⟨some 6, .load 1 false (.t 5), none, []⟩,
⟨some 7, .faddr 0 1 (.t 3), none, []⟩,
⟨some 8, .load 1 false (.t 7), none, []⟩,
⟨some 9, .bin .eql (.t 6) (.t 8), none, []⟩,
⟨some 10, .mv (.t 9), none, []⟩,
⟨some 11, .faddr 1 1 (.t 2), some (10, true), []⟩,
⟨some 12, .load 1 false (.t 11), some (10, true), []⟩,
⟨some 13, .faddr 1 1 (.t 3), some (10, true), []⟩,
⟨some 14, .load 1 false (.t 13), some (10, true), []⟩,
⟨some 15, .call 179 [(.t 12), (.t 14), (.f 180)], some (10, true), []⟩,
⟨some 16, .pick (.t 10) (.t 15) (.c (.d (.bool false))), none, []⟩,
⟨some 4, .mv (.t 16), none, []⟩]
def f123 : IFn := ⟨2, 17, [.t 4], (.seq (.region f123.r0) (.seq (.region f123.r1) .ret))⟩
def f139.r0 : List IOper := [
⟨some 4, .mv (.c (.d (.int .i64 0))), none, []⟩]
def f139.r1 : List IOper := [
⟨some 6, .mv (.t 0), none, []⟩,
⟨some 7, .len .slice (.t 6), none, []⟩,
⟨some 8, .mv (.c (.d (.int .i64 0))), none, []⟩]
def f139.r2 : List IOper := [
⟨some 9, .bin .lss (.t 8) (.t 7), none, []⟩]
def f139.r3 : List IOper := [
⟨some 10, .mv (.t 8), none, []⟩,
⟨some 5, .mv (.t 10), none, []⟩]
def f139.r4 : List IOper := [
⟨some 11, .mv (.t 1), none, []⟩,
⟨some 12, .mv (.t 0), none, []⟩,
⟨some 13, .mv (.t 5), none, []⟩,
⟨some 14, .iaddr 1 (.t 12) (.t 13), none, []⟩,
⟨some 15, .load 1 false (.t 14), none, []⟩,
⟨some 16, .callv (.t 11) [(.t 15)], none, []⟩]
def f139.r5 : List IOper := [
⟨some 17, .mv (.t 5), none, []⟩,
⟨some 4, .mv (.t 17), none, []⟩]
def f139.r6 : List IOper := [
⟨some 18, .bin .add (.t 8) (.c (.d (.int .i64 1))), none, []⟩,
⟨some 8, .mv (.t 18), none, []⟩]
def f139.l7 : IR := (.seq (.region f139.r2) (.seq (.cond (.t 9) .skip (.exit 0)) (.seq (.block 1 (.seq (.region f139.r3) (.seq (.region f139.r4) (.cond (.t 16) (.seq (.region f139.r5) .ret) .skip)))) (.region f139.r6))))
def f139.r8 : List IOper := [
⟨some 4, .mv (.c (.d (.int .i64 (-1)))), none, []⟩]
def f139 : IFn := ⟨2, 19, [.t 4], (.seq (.region f139.r0) (.seq (.seq (.region f139.r1) (.block 0 (.loop f139.l7))) (.seq (.region f139.r8) .ret)))⟩
def f140.r0 : List IOper := [
⟨some 4, .mv (.c (.d (.int .i64 0))), none, []⟩]
def f140.r1 : List IOper := [
⟨some 6, .mv (.t 0), none, []⟩,
⟨some 7, .len .slice (.t 6), none, []⟩,
⟨some 8, .mv (.c (.d (.int .i64 0))), none, []⟩]
def f140.r2 : List IOper := [
⟨some 9, .bin .lss (.t 8) (.t 7), none, []⟩]
def f140.r3 : List IOper := [
⟨some 10, .mv (.t 8), none, []⟩,
⟨some 5, .mv (.t 10), none, []⟩]
def f140.r4 : List IOper := [
⟨some 11, .mv (.t 1), none, []⟩,
⟨some 12, .mv (.t 0), none, []⟩,
⟨some 13, .mv (.t 5), none, []⟩,
⟨some 14, .iaddr 1 (.t 12) (.t 13), none, []⟩,
⟨some 15, .load 1 false (.t 14), none, []⟩,
⟨some 16, .callv (.t 11) [(.t 15)], none, []⟩]
def f140.r5 : List IOper := [
⟨some 17, .mv (.t 5), none, []⟩,
⟨some 4, .mv (.t 17), none, []⟩]
def f140.r6 : List IOper := [
⟨some 18, .bin .add (.t 8) (.c (.d (.int .i64 1))), none, []⟩,
⟨some 8, .mv (.t 18), none, []⟩]
def f140.l7 : IR := (.seq (.region f140.r2) (.seq (.cond (.t 9) .skip (.exit 0)) (.seq (.block 1 (.seq (.region f140.r3) (.seq (.region f140.r4) (.cond (.t 16) (.seq (.region f140.r5) .ret) .skip)))) (.region f140.r6))))
def f140.r8 : List IOper := [
⟨some 4, .mv (.c (.d (.int .i64 (-1)))), none, []⟩]
def f140 : IFn := ⟨2, 19, [.t 4], (.seq (.region f140.r0) (.seq (.seq (.region f140.r1) (.block 0 (.loop f140.l7))) (.seq (.region f140.r8) .ret)))⟩
def f142.r0 : List IOper := [
⟨some 2, .mv (.c (.d (.bool false))), none, []⟩]
def f142.r1 : List IOper := [
⟨some 3, .mv (.t 0), none, []⟩,
⟨some 4, .bin .geq (.t 3) (.c (.d (.int .i64 (-1000000)))), none, []⟩,
⟨some 5, .mv (.t 4), none, []⟩,
⟨some 6, .mv (.t 0), some (5, true), []⟩,
⟨some 7, .bin .leq (.t 6) (.c (.d (.int .i64 1000000))), some (5, true), []⟩,
⟨some 8, .pick (.t 5) (.t 7) (.c (.d (.bool false))), none, []⟩,
⟨some 2, .mv (.t 8), none, []⟩]
def f142 : IFn := ⟨1, 9, [.t 2], (.seq (.region f142.r0) (.seq (.region f142.r1) .ret))⟩
def f157.r0 : List IOper := [
⟨some 8, .mv (.c (.d (.bool true))), none, []⟩]
def f157.r1 : List IOper := [
⟨some 9, .mv (.c (.d (.bool true))), none, []⟩]
def f157.r2 : List IOper := [
⟨some 19, .mv (.t 2), none, []⟩,
⟨some 20, .mv (.t 1), none, []⟩,
⟨some 21, .bin .sub (.t 19) (.t 20), none, []⟩,
⟨some 10, .mv (.t 21), none, []⟩]
def f157.r3 : List IOper := [
⟨some 22, .mv (.t 10), none, []⟩,
⟨some 23, .bin .leq (.t 22) (.c (.d (.int .i64 12))), none, []⟩]
def f157.r4 : List IOper := [
⟨some 24, .mv (.t 0), none, []⟩,
⟨some 25, .mv (.t 1), none, []⟩,
⟨some 26, .mv (.t 2), none, []⟩,
⟨some 27, .call 212 [(.t 24), (.t 25), (.t 26)], none, []⟩]
def f157.r5 : List IOper := [
⟨some 28, .mv (.t 3), none, []⟩,
⟨some 29, .bin .eql (.t 28) (.c (.d (.int .i64 0))), none, []⟩]
def f157.r6 : List IOper := [
⟨some 30, .mv (.t 0), none, []⟩,
⟨some 31, .mv (.t 1), none, []⟩,
⟨some 32, .mv (.t 2), none, []⟩,
⟨some 33, .call 213 [(.t 30), (.t 31), (.t 32)], none, []⟩]
def f157.r7 : List IOper := [
⟨some 34, .mv (.t 8), none, []⟩,
⟨some 35, .un .not (.t 34), none, []⟩]
def f157.r8 : List IOper := [
⟨some 36, .mv (.t 0), none, []⟩,
⟨some 37, .mv (.t 1), none, []⟩,
⟨some 38, .mv (.t 2), none, []⟩,
⟨some 39, .call 214 [(.t 36), (.t 37), (.t 38)], none, []⟩]
def f157.r9 : List IOper := [
⟨some 40, .mv (.t 3), none, []⟩,
⟨some 41, .bin .sub (.t 40) (.c (.d (.int .i64 1))), none, []⟩,
⟨some 3, .mv (.t 41), none, []⟩]
def f157.r10 : List IOper := [
⟨some 43, .mv (.t 0), none, []⟩,
⟨some 44, .mv (.t 1), none, []⟩,
⟨some 45, .mv (.t 2), none, []⟩,
⟨some 46, .call 215 [(.t 43), (.t 44), (.t 45)], none, []⟩,
⟨some 42, .mv (.t 46), none, []⟩,
⟨some 47, .ext (.t 42) 0, none, []⟩,
⟨some 48, .ext (.t 42) 1, none, []⟩,
⟨some 11, .mv (.t 47), none, []⟩,
⟨some 12, .mv (.t 48), none, []⟩]
def f157.r11 : List IOper := [
⟨some 49, .mv (.t 12), none, []⟩,
⟨some 50, .bin .eql (.t 49) (.c (.d (.int .i64 2))), none, []⟩]
def f157.r12 : List IOper := [
⟨some 51, .mv (.t 0), none, []⟩,
⟨some 52, .mv (.t 1), none, []⟩,
⟨some 53, .mv (.t 2), none, []⟩,
⟨some 54, .call 216 [(.t 51), (.t 52), (.t 53)], none, []⟩]
def f157.r13 : List IOper := [
⟨some 55, .mv (.t 2), none, []⟩,
⟨some 56, .bin .sub (.t 55) (.c (.d (.int .i64 1))), none, []⟩,
⟨some 57, .mv (.t 11), none, []⟩,
⟨some 58, .mv (.t 1), none, []⟩,
⟨some 59, .bin .sub (.t 57) (.t 58), none, []⟩,
⟨some 60, .bin .sub (.t 56) (.t 59), none, []⟩,
⟨some 11, .mv (.t 60), none, []⟩]
def f157.r14 : List IOper := [
⟨some 12, .mv (.c (.d (.int .i64 1))), none, []⟩]
def f157.r15 : List IOper := [
⟨some 61, .mv (.t 8), none, []⟩,
⟨some 62, .mv (.t 61), none, []⟩,
⟨some 63, .mv (.t 9), some (62, true), []⟩,
⟨some 64, .pick (.t 62) (.t 63) (.c (.d (.bool false))), none, []⟩,
⟨some 65, .mv (.t 64), none, []⟩,
⟨some 66, .mv (.t 12), some (65, true), []⟩,
⟨some 67, .bin .eql (.t 66) (.c (.d (.int .i64 1))), some (65, true), []⟩,
⟨some 68, .pick (.t 65) (.t 67) (.c (.d (.bool false))), none, []⟩]
def f157.r16 : List IOper := [
⟨some 69, .mv (.t 0), none, []⟩,
⟨some 70, .mv (.t 1), none, []⟩,
⟨some 71, .mv (.t 2), none, []⟩,
⟨some 72, .call 217 [(.t 69), (.t 70), (.t 71)], none, []⟩]
def f157.r17 : List IOper := [
⟨some 73, .mv (.t 1), none, []⟩,
⟨some 74, .bin .gtr (.t 73) (.c (.d (.int .i64 0))), none, [0]⟩,
⟨some 75, .mv (.t 74), none, [1]⟩,
⟨some 76, .mv (.t 0), some (75, true), [2]⟩,
⟨some 77, .mv (.t 1), some (75, true), [2]⟩,
⟨some 78, .bin .sub (.t 77) (.c (.d (.int .i64 1))), some (75, true), [4, 2]⟩,
⟨some 79, .iaddr 1 (.t 76) (.t 78), some (75, true), [3, 5, 2]⟩,
⟨some 80, .load 1 false (.t 79), some (75, true), [6, 2]⟩,
⟨some 81, .mv (.t 0), some (75, true), [2]⟩,
⟨some 82, .mv (.t 11), some (75, true), [2]⟩,
⟨some 83, .iaddr 1 (.t 81) (.t 82), some (75, true), [8, 9, 2]⟩,
⟨some 84, .load 1 false (.t 83), some (75, true), [10, 2]⟩,
⟨some 85, .call 218 [(.t 80), (.t 84)], some (75, true), [7, 11, 2, 2]⟩,
⟨some 86, .un .not (.t 85), some (75, true), [12, 2]⟩,
⟨some 87, .pick (.t 75) (.t 86) (.c (.d (.bool false))), none, [2, 13]⟩]
def f157.r18 : List IOper := [
⟨some 88, .mv (.t 0), none, []⟩,
⟨some 89, .mv (.t 1), none, []⟩,
⟨some 90, .mv (.t 2), none, []⟩,
⟨some 91, .mv (.t 11), none, []⟩,
⟨some 92, .call 219 [(.t 88), (.t 89), (.t 90), (.t 91)], none, []⟩,
⟨some 13, .mv (.t 92), none, []⟩]
def f157.r19 : List IOper := [
⟨some 93, .mv (.t 13), none, []⟩,
⟨some 1, .mv (.t 93), none, []⟩]
def f157.r20 : List IOper := [
⟨some 95, .mv (.t 0), none, []⟩,
⟨some 96, .mv (.t 1), none, []⟩,
⟨some 97, .mv (.t 2), none, []⟩,
⟨some 98, .mv (.t 11), none, []⟩,
⟨some 99, .call 220 [(.t 95), (.t 96), (.t 97), (.t 98)], none, []⟩,
⟨some 94, .mv (.t 99), none, []⟩,
⟨some 100, .ext (.t 94) 0, none, []⟩,
⟨some 101, .ext (.t 94) 1, none, []⟩,
⟨some 14, .mv (.t 100), none, []⟩,
⟨some 15, .mv (.t 101), none, []⟩]
def f157.r21 : List IOper := [
⟨some 102, .mv (.t 15), none, []⟩,
⟨some 9, .mv (.t 102), none, []⟩]
def f157.r22 : List IOper := [
⟨some 103, .mv (.t 14), none, []⟩,
⟨some 104, .mv (.t 1), none, []⟩,
⟨some 105, .bin .sub (.t 103) (.t 104), none, []⟩,
⟨some 106, .mv (.t 2), none, []⟩,
⟨some 107, .mv (.t 14), none, []⟩,
⟨some 108, .bin .sub (.t 106) (.t 107), none, []⟩,
⟨some 16, .mv (.t 105), none, []⟩,
⟨some 17, .mv (.t 108), none, []⟩]
def f157.r23 : List IOper := [
⟨some 109, .mv (.t 10), none, []⟩,
⟨some 110, .bin .quo (.t 109) (.c (.d (.int .i64 8))), none, []⟩,
⟨some 18, .mv (.t 110), none, []⟩]
def f157.r24 : List IOper := [
⟨some 111, .mv (.t 16), none, []⟩,
⟨some 112, .mv (.t 17), none, []⟩,
⟨some 113, .bin .lss (.t 111) (.t 112), none, []⟩]
def f157.r25 : List IOper := [
⟨some 114, .mv (.t 16), none, []⟩,
⟨some 115, .mv (.t 18), none, []⟩,
⟨some 116, .bin .geq (.t 114) (.t 115), none, []⟩,
⟨some 8, .mv (.t 116), none, []⟩]
def f157.r26 : List IOper := [
⟨some 117, .mv (.t 0), none, []⟩,
⟨some 118, .mv (.t 1), none, []⟩,
⟨some 119, .mv (.t 14), none, []⟩,
⟨some 120, .mv (.t 3), none, []⟩,
⟨some 121, .call 157 [(.t 117), (.t 118), (.t 119), (.t 120)], none, []⟩]
def f157.r27 : List IOper := [
⟨some 122, .mv (.t 14), none, []⟩,
⟨some 123, .bin .add (.t 122) (.c (.d (.int .i64 1))), none, []⟩,
⟨some 1, .mv (.t 123), none, []⟩]
def f157.r28 : List IOper := [
⟨some 124, .mv (.t 17), none, []⟩,
⟨some 125, .mv (.t 18), none, []⟩,
⟨some 126, .bin .geq (.t 124) (.t 125), none, []⟩,
⟨some 8, .mv (.t 126), none, []⟩]
def f157.r29 : List IOper := [
⟨some 127, .mv (.t 0), none, []⟩,
⟨some 128, .mv (.t 14), none, []⟩,
⟨some 129, .bin .add (.t 128) (.c (.d (.int .i64 1))), none, []⟩,
⟨some 130, .mv (.t 2), none, []⟩,
⟨some 131, .mv (.t 3), none, []⟩,
⟨some 132, .call 157 [(.t 127), (.t 129), (.t 130), (.t 131)], none, []⟩]
def f157.r30 : List IOper := [
⟨some 133, .mv (.t 14), none, []⟩,
⟨some 2, .mv (.t 133), none, []⟩]
def f157.l31 : IR := (.block 1 (.seq (.region f157.r2) (.seq (.seq (.region f157.r3) (.cond (.t 23) (.seq (.region f157.r4) .ret) .skip)) (.seq (.seq (.region f157.r5) (.cond (.t 29) (.seq (.region f157.r6) .ret) .skip)) (.seq (.seq (.region f157.r7) (.cond (.t 35) (.seq (.region f157.r8) (.region f157.r9)) .skip)) (.seq (.region f157.r10) (.seq (.seq (.region f157.r11) (.cond (.t 50) (.seq (.region f157.r12) (.seq (.region f157.r13) (.region f157.r14))) .skip)) (.seq (.seq (.region f157.r15) (.cond (.t 68) (.seq (.region f157.r16) (.cond (.t 72) .ret .skip)) .skip)) (.seq (.seq (.draw f157.r17) (.cond (.t 87) (.seq (.region f157.r18) (.seq (.region f157.r19) (.exit 1))) .skip)) (.seq (.region f157.r20) (.seq (.region f157.r21) (.seq (.region f157.r22) (.seq (.region f157.r23) (.seq (.region f157.r24) (.cond (.t 113) (.seq (.region f157.r25) (.seq (.region f157.r26) (.region f157.r27))) (.seq (.region f157.r28) (.seq (.region f157.r29) (.region f157.r30))))))))))))))))))
def f157 : IFn := ⟨4, 134, [], (.seq (.region f157.r0) (.seq (.region f157.r1) (.block 0 (.loop f157.l31))))⟩
def f158.r0 : List IOper := [
⟨some 2, .mv (.c (.d (.int .i64 0))), none, []⟩]
def f158.r1 : List IOper := [
⟨some 3, .mv (.t 0), none, []⟩,
⟨some 4, .conv .u32 (.t 3), none, []⟩,
⟨some 5, .call 221 [(.t 4)], none, []⟩,
⟨some 2, .mv (.t 5), none, []⟩]
def f158.r2 : List IOper := [
⟨some 6, .mv (.t 0), none, []⟩,
⟨some 7, .call 222 [(.t 6)], none, []⟩,
⟨some 2, .mv (.t 7), none, []⟩]
def f158 : IFn := ⟨1, 8, [.t 2], (.seq (.region f158.r0) (.seq (.cond (.c (.d (.bool false))) (.seq (.region f158.r1) .ret) .skip) (.seq (.region f158.r2) .ret)))⟩
def f164.r0 : List IOper := [
⟨some 2, .alloc [.d (.int .i64 0), .nils], none, []⟩,
⟨some 3, .mv (.c (.d (.int .i64 0))), none, []⟩]
def f164.r1 : List IOper := [
⟨some 9, .mv (.t 0), none, []⟩,
⟨some 10, .mkmap, none, []⟩,
⟨some 11, .build [.d (.int .i64 0), .nilm] [(1, 1, (.t 10))], none, []⟩,
⟨some 12, .build [.d (.str []), .d (.int .i64 0), .nilm] [(0, 1, (.t 9)), (1, 2, (.t 11))], none, []⟩,
⟨some 13, .box 3 (.t 12), none, []⟩,
⟨some 4, .mv (.t 13), none, []⟩]
def f164.r2 : List IOper := [
⟨some 14, .mv (.t 4), none, []⟩,
⟨some 15, .mkfunc 227 [(.t 14)] [], none, []⟩,
⟨some 5, .mv (.t 15), none, []⟩]
def f164.r3 : List IOper := [
⟨some 16, .mv (.t 4), none, []⟩,
⟨some 17, .call 228 [(.t 16)], none, []⟩]
def f164.r4 : List IOper := [
⟨some 19, .mv (.t 4), none, []⟩,
⟨some 20, .call 229 [(.t 19)], none, []⟩,
⟨some 18, .mv (.t 20), none, []⟩,
⟨some 21, .ext (.t 18) 0, none, []⟩,
⟨some 22, .ext (.t 18) 1, none, []⟩,
⟨some 6, .mv (.t 21), none, []⟩,
⟨some 7, .mv (.t 22), none, []⟩]
def f164.r5 : List IOper := [
⟨some 23, .mv (.t 4), none, []⟩,
⟨some 24, .call 228 [(.t 23)], none, []⟩]
def f164.r6 : List IOper := [
⟨some 25, .mv (.t 5), none, []⟩,
⟨some 26, .mv (.t 6), none, []⟩,
⟨some 27, .callv (.t 25) [(.t 26)], none, []⟩,
⟨some 28, .un .not (.t 27), none, []⟩]
def f164.r7 : List IOper := [
⟨some 29, .build [.d (.int .i64 0), .nils] [], none, []⟩,
⟨none, .store 2 (.t 2) (.t 29), none, []⟩,
⟨some 3, .mv (.c (.d (.int .i64 6))), none, []⟩]
def f164.r8 : List IOper := [
⟨some 30, .mv (.t 4), none, []⟩,
⟨some 31, .call 228 [(.t 30)], none, []⟩]
def f164.r9 : List IOper := [
⟨some 32, .mv (.t 4), none, []⟩,
⟨some 33, .nilchk (.t 32), none, []⟩,
⟨some 34, .faddr 0 1 (.t 33), none, []⟩,
⟨some 35, .load 1 false (.t 34), none, []⟩,
⟨some 36, .bin .eql (.t 35) (.c (.d (.str []))), none, []⟩]
def f164.r10 : List IOper := [
⟨some 37, .mv (.t 4), none, []⟩,
⟨some 38, .nilchk (.t 37), none, []⟩,
⟨some 39, .faddr 1 2 (.t 38), none, []⟩,
⟨some 40, .call 206 [(.t 39)], none, []⟩,
⟨some 41, .ext (.t 40) 0, none, []⟩,
⟨some 42, .ext (.t 40) 1, none, []⟩,
⟨none, .store 2 (.t 2) (.t 41), none, []⟩,
⟨some 3, .mv (.t 42), none, []⟩]
def f164.r11 : List IOper := [
⟨some 8, .mv (.c (.d (.bool false))), none, []⟩]
def f164.r12 : List IOper := [
⟨some 44, .mv (.t 4), none, []⟩,
⟨some 45, .call 229 [(.t 44)], none, []⟩,
⟨some 43, .mv (.t 45), none, []⟩,
⟨some 46, .ext (.t 43) 0, none, []⟩,
⟨some 47, .ext (.t 43) 1, none, []⟩,
⟨some 6, .mv (.t 46), none, []⟩,
⟨some 8, .mv (.t 47), none, []⟩]
def f164.r13 : List IOper := [
⟨some 48, .mv (.t 8), none, []⟩,
⟨some 49, .un .not (.t 48), none, []⟩]
def f164.r14 : List IOper := [
⟨some 50, .build [.d (.int .i64 0), .nils] [], none, []⟩,
⟨none, .store 2 (.t 2) (.t 50), none, []⟩,
⟨some 3, .mv (.c (.d (.int .i64 6))), none, []⟩]
def f164.l15 : IR := (.block 1 (.seq (.region f164.r5) (.seq (.seq (.region f164.r6) (.cond (.t 28) (.seq (.region f164.r7) .ret) .skip)) (.seq (.region f164.r8) (.seq (.seq (.region f164.r9) (.cond (.t 36) (.seq (.region f164.r10) .ret) .skip)) (.seq (.region f164.r11) (.seq (.region f164.r12) (.seq (.region f164.r13) (.cond (.t 49) (.seq (.region f164.r14) .ret) .skip)))))))))
def f164 : IFn := ⟨1, 51, [.cell 2 2 true, .t 3], (.seq (.region f164.r0) (.seq (.region f164.r1) (.seq (.region f164.r2) (.seq (.region f164.r3) (.seq (.region f164.r4) (.block 0 (.loop f164.l15)))))))⟩
def f168.r0 : List IOper := [
⟨some 2, .alloc [.d (.str []), .nils], none, []⟩,
⟨some 3, .mv (.c (.d (.int .i64 0))), none, []⟩]
def f168.r1 : List IOper := [
⟨some 15, .mv (.t 0), none, []⟩,
⟨some 16, .call 161 [(.t 15), (.c (.d (.str [91])))], none, []⟩,
⟨some 14, .mv (.t 16), none, []⟩,
⟨some 17, .ext (.t 14) 0, none, []⟩,
⟨some 18, .ext (.t 14) 1, none, []⟩,
⟨some 4, .mv (.t 17), none, []⟩,
⟨some 5, .mv (.t 18), none, []⟩]
def f168.r2 : List IOper := [
⟨some 20, .mv (.t 4), none, []⟩,
⟨some 21, .call 235 [(.t 20), (.c (.d (.str [93])))], none, []⟩,
⟨some 19, .mv (.t 21), none, []⟩,
⟨some 22, .ext (.t 19) 0, none, []⟩,
⟨some 23, .ext (.t 19) 1, none, []⟩,
⟨some 4, .mv (.t 22), none, []⟩,
⟨some 6, .mv (.t 23), none, []⟩]
def f168.r3 : List IOper := [
⟨some 24, .mv (.t 5), none, []⟩,
⟨some 25, .un .not (.t 24), none, []⟩,
⟨some 26, .mv (.t 25), none, []⟩,
⟨some 27, .mv (.t 6), some (26, false), []⟩,
⟨some 28, .un .not (.t 27), some (26, false), []⟩,
⟨some 29, .pick (.t 26) (.c (.d (.bool true))) (.t 28), none, []⟩]
def f168.r4 : List IOper := [
⟨some 30, .build [.d (.str []), .nils] [], none, []⟩,
⟨none, .store 2 (.t 2) (.t 30), none, []⟩,
⟨some 3, .mv (.c (.d (.int .i64 6))), none, []⟩]
def f168.r5 : List IOper := [
⟨some 7, .alloc [.d (.str []), .nils], none, []⟩]
def f168.r6 : List IOper := [
⟨some 31, .mv (.t 4), none, []⟩,
⟨some 32, .call 163 [(.t 31), (.c (.d (.str [44, 32])))], none, []⟩,
⟨some 33, .len .slice (.t 32), none, []⟩,
⟨some 34, .mv (.c (.d (.int .i64 0))), none, []⟩]
def f168.r7 : List IOper := [
⟨some 35, .bin .lss (.t 34) (.t 33), none, []⟩]
def f168.r8 : List IOper := [
⟨some 36, .mv (.t 34), none, []⟩,
⟨some 37, .iaddr 1 (.t 32) (.t 34), none, []⟩,
⟨some 38, .load 1 false (.t 37), none, []⟩,
⟨some 8, .mv (.t 36), none, []⟩,
⟨some 9, .mv (.t 38), none, []⟩]
def f168.r9 : List IOper := [
⟨some 40, .mv (.t 9), none, []⟩,
⟨some 41, .call 235 [(.t 40), (.c (.d (.str [46, 46])))], none, []⟩,
⟨some 39, .mv (.t 41), none, []⟩,
⟨some 42, .ext (.t 39) 0, none, []⟩,
⟨some 43, .ext (.t 39) 1, none, []⟩,
⟨some 10, .mv (.t 42), none, []⟩,
⟨some 11, .mv (.t 43), none, []⟩]
def f168.r10 : List IOper := [
⟨some 44, .mv (.t 11), none, []⟩,
⟨some 45, .mv (.t 44), none, []⟩,
⟨some 46, .mv (.t 8), some (45, true), []⟩,
⟨some 47, .bin .eql (.t 46) (.c (.d (.int .i64 0))), some (45, true), []⟩,
⟨some 48, .pick (.t 45) (.t 47) (.c (.d (.bool false))), none, []⟩]
def f168.r11 : List IOper := [
⟨some 49, .mv (.t 10), none, []⟩,
⟨some 50, .faddr 0 1 (.t 7), none, []⟩,
⟨none, .store 1 (.t 50) (.t 49), none, []⟩]
def f168.r12 : List IOper := [
⟨some 52, .mv (.t 9), none, []⟩,
⟨some 53, .call 164 [(.t 52)], none, []⟩,
⟨some 51, .mv (.t 53), none, []⟩,
⟨some 54, .ext (.t 51) 0, none, []⟩,
⟨some 55, .ext (.t 51) 1, none, []⟩,
⟨some 12, .alloc [.d (.int .i64 0), .nils], none, []⟩,
⟨none, .store 2 (.t 12) (.t 54), none, []⟩,
⟨some 13, .mv (.t 55), none, []⟩]
def f168.r13 : List IOper := [
⟨some 56, .mv (.t 13), none, []⟩,
⟨some 57, .bin .neq (.t 56) (.c (.d (.int .i64 0))), none, []⟩,
⟨some 58, .mv (.t 57), none, []⟩,
⟨some 59, .mv (.t 4), some (58, true), []⟩,
⟨some 60, .bin .neq (.t 59) (.c (.d (.str []))), some (58, true), []⟩,
⟨some 61, .pick (.t 58) (.t 60) (.c (.d (.bool false))), none, []⟩]
def f168.r14 : List IOper := [
⟨some 62, .build [.d (.str []), .nils] [], none, []⟩,
⟨none, .store 2 (.t 2) (.t 62), none, []⟩,
⟨some 3, .mv (.c (.d (.int .i64 6))), none, []⟩]
def f168.r15 : List IOper := [
⟨some 63, .mv (.t 4), none, []⟩,
⟨some 64, .bin .neq (.t 63) (.c (.d (.str []))), none, []⟩]
def f168.r16 : List IOper := [
⟨some 65, .faddr 1 1 (.t 7), none, []⟩,
⟨some 66, .load 1 false (.t 65), none, []⟩,
⟨some 67, .load 2 true (.t 12), none, []⟩,
⟨some 68, .mkSlice 2 1 [.d (.int .i64 0), .nils] [(0, 2, (.t 67))], none, []⟩,
⟨some 69, .append 2 32 (.t 66) (.t 68), none, []⟩,
⟨some 70, .faddr 1 1 (.t 7), none, []⟩,
⟨none, .store 1 (.t 70) (.t 69), none, []⟩]
def f168.r17 : List IOper := [
⟨some 71, .bin .add (.t 34) (.c (.d (.int .i64 1))), none, []⟩,
⟨some 34, .mv (.t 71), none, []⟩]
def f168.l18 : IR := (.seq (.region f168.r7) (.seq (.cond (.t 35) .skip (.exit 0)) (.seq (.block 1 (.seq (.region f168.r8) (.seq (.seq (.region f168.r9) (.seq (.region f168.r10) (.cond (.t 48) (.seq (.region f168.r11) (.exit 1)) .skip))) (.seq (.region f168.r12) (.seq (.seq (.region f168.r13) (.cond (.t 61) (.seq (.region f168.r14) .ret) .skip)) (.seq (.region f168.r15) (.cond (.t 64) (.region f168.r16) .skip))))))) (.region f168.r17))))
def f168.r19 : List IOper := [
⟨some 72, .load 2 true (.t 7), none, []⟩,
⟨some 73, .call 59 [(.t 72)], none, []⟩,
⟨some 74, .un .not (.t 73), none, []⟩,
⟨some 75, .mv (.t 74), none, []⟩,
⟨some 76, .load 2 true (.t 7), some (75, false), []⟩,
⟨some 77, .call 236 [(.t 76)], some (75, false), []⟩,
⟨some 78, .mv (.t 0), some (75, false), []⟩,
⟨some 79, .bin .neq (.t 77) (.t 78), some (75, false), []⟩,
⟨some 80, .pick (.t 75) (.c (.d (.bool true))) (.t 79), none, []⟩]
def f168.r20 : List IOper := [
⟨some 81, .build [.d (.str []), .nils] [], none, []⟩,
⟨none, .store 2 (.t 2) (.t 81), none, []⟩,
⟨some 3, .mv (.c (.d (.int .i64 6))), none, []⟩]
def f168.r21 : List IOper := [
⟨some 82, .load 2 true (.t 7), none, []⟩,
⟨none, .store 2 (.t 2) (.t 82), none, []⟩,
⟨some 3, .mv (.c (.d (.int .i64 0))), none, []⟩]
def f168 : IFn := ⟨1, 83, [.cell 2 2 true, .t 3], (.seq (.region f168.r0) (.seq (.region f168.r1) (.seq (.region f168.r2) (.seq (.seq (.region f168.r3) (.cond (.t 29) (.seq (.region f168.r4) .ret) .skip)) (.seq (.region f168.r5) (.seq (.seq (.region f168.r6) (.block 0 (.loop f168.l18))) (.seq (.seq (.region f168.r19) (.cond (.t 80) (.seq (.region f168.r20) .ret) .skip)) (.seq (.region f168.r21) .ret))))))))⟩
def f169.r0 : List IOper := [
⟨some 1, .box 3 (.t 0), none, []⟩,
⟨some 2, .mv (.c (.d (.str []))), none, []⟩]
def f169.r1 : List IOper := [
⟨some 6, .faddr 1 2 (.t 1), none, []⟩,
⟨some 7, .load 2 true (.t 6), none, []⟩,
⟨some 8, .call 237 [(.t 7)], none, []⟩,
⟨some 5, .mv (.t 8), none, []⟩,
⟨some 9, .ext (.t 5) 0, none, []⟩,
⟨some 10, .ext (.t 5) 1, none, []⟩,
⟨some 3, .mv (.t 9), none, []⟩,
⟨some 4, .mv (.t 10), none, []⟩]
def f169.r2 : List IOper := [
⟨some 11, .mv (.t 3), none, []⟩,
⟨some 12, .bin .eql (.t 11) (.c (.d (.str [91, 93]))), none, []⟩]
def f169.r3 : List IOper := [
⟨some 13, .faddr 0 1 (.t 1), none, []⟩,
⟨some 14, .load 1 false (.t 13), none, []⟩,
⟨some 2, .mv (.t 14), none, []⟩]
def f169.r4 : List IOper := [
⟨some 15, .mv (.t 3), none, []⟩,
⟨some 16, .faddr 0 1 (.t 1), none, []⟩,
⟨some 17, .load 1 false (.t 16), none, []⟩,
⟨some 18, .bin .add (.t 15) (.t 17), none, []⟩,
⟨some 2, .mv (.t 18), none, []⟩]
def f169 : IFn := ⟨1, 19, [.t 2], (.seq (.region f169.r0) (.seq (.region f169.r1) (.seq (.seq (.region f169.r2) (.cond (.t 12) (.seq (.region f169.r3) .ret) .skip)) (.seq (.region f169.r4) .ret))))⟩
def f170.r0 : List IOper := [
⟨some 2, .mv (.c (.nils)), none, []⟩]
def f170.r1 : List IOper := [
⟨some 3, .mv (.t 0), none, []⟩,
⟨some 4, .eq false .slice (.t 3) (.c (.nils)), none, []⟩]
def f170.r2 : List IOper := [
⟨some 2, .mv (.c (.nils)), none, []⟩]
def f170.r3 : List IOper := [
⟨some 5, .mkSlice 2 0 [] [], none, []⟩,
⟨some 6, .mv (.t 0), none, []⟩,
⟨some 7, .append 2 24 (.t 5) (.t 6), none, []⟩,
⟨some 2, .mv (.t 7), none, []⟩]
def f170 : IFn := ⟨1, 8, [.t 2], (.seq (.region f170.r0) (.seq (.seq (.region f170.r1) (.cond (.t 4) (.seq (.region f170.r2) .ret) .skip)) (.seq (.region f170.r3) .ret)))⟩
def f174.r0 : List IOper := [
⟨some 4, .mv (.c (.d (.int .i64 0))), none, []⟩]
def f174.r1 : List IOper := [
⟨some 6, .mv (.t 0), none, []⟩,
⟨some 7, .len .slice (.t 6), none, []⟩,
⟨some 8, .mv (.c (.d (.int .i64 0))), none, []⟩]
def f174.r2 : List IOper := [
⟨some 9, .bin .lss (.t 8) (.t 7), none, []⟩]
def f174.r3 : List IOper := [
⟨some 10, .mv (.t 8), none, []⟩,
⟨some 5, .mv (.t 10), none, []⟩]
def f174.r4 : List IOper := [
⟨some 11, .mv (.t 1), none, []⟩,
⟨some 12, .mv (.t 0), none, []⟩,
⟨some 13, .mv (.t 5), none, []⟩,
⟨some 14, .iaddr 2 (.t 12) (.t 13), none, []⟩,
⟨some 15, .load 2 true (.t 14), none, []⟩,
⟨some 16, .callv (.t 11) [(.t 15)], none, []⟩]
def f174.r5 : List IOper := [
⟨some 17, .mv (.t 5), none, []⟩,
⟨some 4, .mv (.t 17), none, []⟩]
def f174.r6 : List IOper := [
⟨some 18, .bin .add (.t 8) (.c (.d (.int .i64 1))), none, []⟩,
⟨some 8, .mv (.t 18), none, []⟩]
def f174.l7 : IR := (.seq (.region f174.r2) (.seq (.cond (.t 9) .skip (.exit 0)) (.seq (.block 1 (.seq (.region f174.r3) (.seq (.region f174.r4) (.cond (.t 16) (.seq (.region f174.r5) .ret) .skip)))) (.region f174.r6))))
def f174.r8 : List IOper := [
⟨some 4, .mv (.c (.d (.int .i64 (-1)))), none, []⟩]
def f174 : IFn := ⟨2, 19, [.t 4], (.seq (.region f174.r0) (.seq (.seq (.region f174.r1) (.block 0 (.loop f174.l7))) (.seq (.region f174.r8) .ret)))⟩
def f175.r0 : List IOper := [
⟨some 4, .alloc [.d (.str []), .nils], none, []⟩,
⟨some 5, .mv (.c (.d (.int .i64 0))), none, []⟩]
def f175.r1 : List IOper := [
⟨some 6, .mv (.t 1), none, []⟩,
⟨some 7, .len .slice (.t 6), none, []⟩,
⟨some 8, .bin .gtr (.t 7) (.c (.d (.int .i64 6))), none, []⟩]
def f175.r2 : List IOper := [
⟨some 9, .build [.d (.str []), .nils] [], none, []⟩,
⟨none, .store 2 (.t 4) (.t 9), none, []⟩,
⟨some 5, .mv (.c (.d (.int .i64 3))), none, []⟩]
def f175.r3 : List IOper := [
⟨some 10, .mv (.t 0), none, []⟩,
⟨some 11, .mv (.t 1), none, []⟩,
⟨some 12, .call 110 [(.t 11)], none, []⟩,
⟨some 13, .build [.d (.str []), .nils] [(0, 1, (.t 10)), (1, 1, (.t 12))], none, []⟩,
⟨none, .store 2 (.t 4) (.t 13), none, []⟩,
⟨some 5, .mv (.c (.d (.int .i64 0))), none, []⟩]
def f175 : IFn := ⟨2, 14, [.cell 4 2 true, .t 5], (.seq (.region f175.r0) (.seq (.seq (.region f175.r1) (.cond (.t 8) (.seq (.region f175.r2) .ret) .skip)) (.seq (.region f175.r3) .ret)))⟩
def f176.r0 : List IOper := [
⟨some 2, .mv (.c (.nils)), none, []⟩]
def f176.r1 : List IOper := [
⟨some 3, .mv (.c (.d (.int .i64 0))), none, []⟩]
def f176.r2 : List IOper := [
⟨some 9, .mv (.t 0), none, []⟩,
⟨some 10, .len .slice (.t 9), none, []⟩,
⟨some 11, .mv (.c (.d (.int .i64 0))), none, []⟩]
def f176.r3 : List IOper := [
⟨some 12, .bin .lss (.t 11) (.t 10), none, []⟩]
def f176.r4 : List IOper := [
⟨some 13, .iaddr 1 (.t 9) (.t 11), none, []⟩,
⟨some 14, .load 1 false (.t 13), none, []⟩,
⟨some 5, .mv (.t 14), none, []⟩]
def f176.r5 : List IOper := [
⟨some 15, .mv (.t 3), none, []⟩,
⟨some 16, .mv (.t 5), none, []⟩,
⟨some 17, .len .slice (.t 16), none, []⟩,
⟨some 18, .bin .add (.t 15) (.t 17), none, []⟩,
⟨some 3, .mv (.t 18), none, []⟩]
def f176.r6 : List IOper := [
⟨some 19, .mv (.t 3), none, []⟩,
⟨some 20, .bin .lss (.t 19) (.c (.d (.int .i64 0))), none, []⟩]
def f176.r7 : List IOper := [
⟨some 21, .mkiface 9 (.c (.d (.str [108, 101, 110, 32, 111, 117, 116, 32, 111, 102, 32, 114, 97, 110, 103, 101]))), none, []⟩,
⟨none, .bad, none, []⟩]
def f176.r8 : List IOper := [
⟨some 22, .bin .add (.t 11) (.c (.d (.int .i64 1))), none, []⟩,
⟨some 11, .mv (.t 22), none, []⟩]
def f176.l9 : IR := (.seq (.region f176.r3) (.seq (.cond (.t 12) .skip (.exit 0)) (.seq (.block 1 (.seq (.region f176.r4) (.seq (.region f176.r5) (.seq (.region f176.r6) (.cond (.t 20) (.region f176.r7) .skip))))) (.region f176.r8))))
def f176.r10 : List IOper := [
⟨some 23, .mv (.t 3), none, []⟩,
⟨some 24, .call 248 [(.c (.nils)), (.t 23)], none, []⟩,
⟨some 6, .mv (.t 24), none, []⟩]
def f176.r11 : List IOper := [
⟨some 25, .mv (.t 0), none, []⟩,
⟨some 26, .len .slice (.t 25), none, []⟩,
⟨some 27, .mv (.c (.d (.int .i64 0))), none, []⟩]
def f176.r12 : List IOper := [
⟨some 28, .bin .lss (.t 27) (.t 26), none, []⟩]
def f176.r13 : List IOper := [
⟨some 29, .iaddr 1 (.t 25) (.t 27), none, []⟩,
⟨some 30, .load 1 false (.t 29), none, []⟩,
⟨some 8, .mv (.t 30), none, []⟩]
def f176.r14 : List IOper := [
⟨some 31, .mv (.t 6), none, []⟩,
⟨some 32, .mv (.t 8), none, []⟩,
⟨some 33, .append 2 32 (.t 31) (.t 32), none, []⟩,
⟨some 6, .mv (.t 33), none, []⟩]
def f176.r15 : List IOper := [
⟨some 34, .bin .add (.t 27) (.c (.d (.int .i64 1))), none, []⟩,
⟨some 27, .mv (.t 34), none, []⟩]
def f176.l16 : IR := (.seq (.region f176.r12) (.seq (.cond (.t 28) .skip (.exit 2)) (.seq (.block 3 (.seq (.region f176.r13) (.region f176.r14))) (.region f176.r15))))
def f176.r17 : List IOper := [
⟨some 35, .mv (.t 6), none, []⟩,
⟨some 2, .mv (.t 35), none, []⟩]
def f176 : IFn := ⟨1, 36, [.t 2], (.seq (.region f176.r0) (.seq (.region f176.r1) (.seq (.seq (.region f176.r2) (.block 0 (.loop f176.l9))) (.seq (.region f176.r10) (.seq (.seq (.region f176.r11) (.block 2 (.loop f176.l16))) (.seq (.region f176.r17) .ret))))))⟩
def f179.r0 : List IOper := [
⟨some 6, .mv (.c (.d (.bool false))), none, []⟩]
def f179.r1 : List IOper := [
⟨some 10, .mv (.t 0), none, []⟩,
⟨some 11, .len .slice (.t 10), none, []⟩,
⟨some 12, .mv (.t 1), none, []⟩,
⟨some 13, .len .slice (.t 12), none, []⟩,
⟨some 14, .bin .neq (.t 11) (.t 13), none, []⟩]
def f179.r2 : List IOper := [
⟨some 6, .mv (.c (.d (.bool false))), none, []⟩]
def f179.r3 : List IOper := [
⟨some 15, .mv (.t 0), none, []⟩,
⟨some 16, .len .slice (.t 15), none, []⟩,
⟨some 17, .mv (.c (.d (.int .i64 0))), none, []⟩]
def f179.r4 : List IOper := [
⟨some 18, .bin .lss (.t 17) (.t 16), none, []⟩]
def f179.r5 : List IOper := [
⟨some 19, .mv (.t 17), none, []⟩,
⟨some 20, .iaddr 2 (.t 15) (.t 17), none, []⟩,
⟨some 21, .load 2 true (.t 20), none, []⟩,
⟨some 8, .alloc [.d (.int .i64 0), .nils], none, []⟩,
⟨some 7, .mv (.t 19), none, []⟩,
⟨none, .store 2 (.t 8) (.t 21), none, []⟩]
def f179.r6 : List IOper := [
⟨some 22, .mv (.t 1), none, []⟩,
⟨some 23, .mv (.t 7), none, []⟩,
⟨some 24, .iaddr 2 (.t 22) (.t 23), none, []⟩,
⟨some 25, .load 2 true (.t 24), none, []⟩,
⟨some 9, .alloc [.d (.int .i64 0), .nils], none, []⟩,
⟨none, .store 2 (.t 9) (.t 25), none, []⟩]
def f179.r7 : List IOper := [
⟨some 26, .mv (.t 2), none, []⟩,
⟨some 27, .load 2 true (.t 8), none, []⟩,
⟨some 28, .load 2 true (.t 9), none, []⟩,
⟨some 29, .callv (.t 26) [(.t 27), (.t 28)], none, []⟩,
⟨some 30, .un .not (.t 29), none, []⟩]
def f179.r8 : List IOper := [
⟨some 6, .mv (.c (.d (.bool false))), none, []⟩]
def f179.r9 : List IOper := [
⟨some 31, .bin .add (.t 17) (.c (.d (.int .i64 1))), none, []⟩,
⟨some 17, .mv (.t 31), none, []⟩]
def f179.l10 : IR := (.seq (.region f179.r4) (.seq (.cond (.t 18) .skip (.exit 0)) (.seq (.block 1 (.seq (.region f179.r5) (.seq (.region f179.r6) (.seq (.region f179.r7) (.cond (.t 30) (.seq (.region f179.r8) .ret) .skip))))) (.region f179.r9))))
def f179.r11 : List IOper := [
⟨some 6, .mv (.c (.d (.bool true))), none, []⟩]
def f179 : IFn := ⟨3, 32, [.t 6], (.seq (.region f179.r0) (.seq (.seq (.region f179.r1) (.cond (.t 14) (.seq (.region f179.r2) .ret) .skip)) (.seq (.seq (.region f179.r3) (.block 0 (.loop f179.l10))) (.seq (.region f179.r11) .ret))))⟩
def f180.r0 : List IOper := [
⟨some 2, .box 2 (.t 0), none, []⟩,
⟨some 3, .box 2 (.t 1), none, []⟩,
⟨some 4, .mv (.c (.d (.bool false))), none, []⟩]
def f180.r1 : List IOper := [
⟨some 5, .faddr 0 1 (.t 2), none, []⟩,
⟨some 6, .load 1 false (.t 5), none, []⟩,
⟨some 7, .faddr 0 1 (.t 3), none, []⟩,
⟨some 8, .load 1 false (.t 7), none, []⟩,
⟨some 9, .bin .eql (.t 6) (.t 8), none, []⟩,
⟨some 10, .mv (.t 9), none, []⟩,
⟨some 11, .faddr 1 1 (.t 2), some (10, true), []⟩,
⟨some 12, .load 1 false (.t 11), some (10, true), []⟩,
⟨some 13, .faddr 1 1 (.t 3), some (10, true), []⟩,
⟨some 14, .load 1 false (.t 13), some (10, true), []⟩,
⟨some 15, .call 249 [(.t 12), (.t 14)], some (10, true), []⟩,
⟨some 16, .pick (.t 10) (.t 15) (.c (.d (.bool false))), none, []⟩,
⟨some 4, .mv (.t 16), none, []⟩]
def f180 : IFn := ⟨2, 17, [.t 4], (.seq (.region f180.r0) (.seq (.region f180.r1) .ret))⟩
def f206.r0 : List IOper := [
⟨some 2, .alloc [.d (.int .i64 0), .nils], none, []⟩,
⟨some 3, .mv (.c (.d (.int .i64 0))), none, []⟩]
def f206.r1 : List IOper := [
⟨some 10, .mv (.t 0), none, []⟩,
⟨some 11, .nilchk (.t 10), none, []⟩,
⟨some 12, .faddr 0 1 (.t 11), none, []⟩,
⟨some 13, .load 1 false (.t 12), none, []⟩,
⟨some 14, .build [.d (.int .i64 0), .nils] [(0, 1, (.t 13))], none, []⟩,
⟨some 4, .alloc [.d (.int .i64 0), .nils], none, []⟩,
⟨none, .store 2 (.t 4) (.t 14), none, []⟩]
def f206.r2 : List IOper := [
⟨some 5, .mv (.c (.nils)), none, []⟩]
def f206.r3 : List IOper := [
⟨some 15, .mv (.t 0), none, []⟩,
⟨some 16, .nilchk (.t 15), none, []⟩,
⟨some 17, .faddr 1 1 (.t 16), none, []⟩,
⟨some 18, .load 1 false (.t 17), none, []⟩,
⟨some 19, .range true (.t 18), none, []⟩]
def f206.r4 : List IOper := [
⟨some 20, .nextM (.t 19), none, []⟩,
⟨some 21, .ext (.t 20) 0, none, []⟩]
def f206.r5 : List IOper := [
⟨some 22, .entry (.t 19), none, []⟩,
⟨some 23, .ext (.t 22) 0, none, []⟩,
⟨some 24, .ext (.t 22) 1, none, []⟩,
⟨some 6, .mv (.t 23), none, []⟩,
⟨some 7, .mv (.t 24), none, []⟩]
def f206.r6 : List IOper := [
⟨some 25, .mv (.t 7), none, []⟩,
⟨some 26, .bin .neq (.t 25) (.c (.d (.int .i64 0))), none, []⟩]
def f206.r7 : List IOper := [
⟨some 27, .mv (.t 5), none, []⟩,
⟨some 28, .mv (.t 6), none, []⟩,
⟨some 29, .mkSlice 1 1 [.d (.str [])] [(0, 1, (.t 28))], none, []⟩,
⟨some 30, .append 1 16 (.t 27) (.t 29), none, []⟩,
⟨some 5, .mv (.t 30), none, []⟩]
def f206.l8 : IR := (.seq (.region f206.r4) (.seq (.cond (.t 21) .skip (.exit 0)) (.block 1 (.seq (.region f206.r5) (.seq (.region f206.r6) (.cond (.t 26) (.region f206.r7) .skip))))))
def f206.r9 : List IOper := [
⟨some 31, .mv (.t 5), none, []⟩,
⟨some 32, .call 104 [(.t 31)], none, []⟩]
def f206.r10 : List IOper := [
⟨some 33, .mv (.t 5), none, []⟩,
⟨some 34, .len .slice (.t 33), none, []⟩,
⟨some 35, .mv (.c (.d (.int .i64 0))), none, []⟩]
def f206.r11 : List IOper := [
⟨some 36, .bin .lss (.t 35) (.t 34), none, []⟩]
def f206.r12 : List IOper := [
⟨some 37, .iaddr 1 (.t 33) (.t 35), none, []⟩,
⟨some 38, .load 1 false (.t 37), none, []⟩,
⟨some 9, .mv (.t 38), none, []⟩]
def f206.r13 : List IOper := [
⟨some 39, .faddr 1 1 (.t 4), none, []⟩,
⟨some 40, .load 1 false (.t 39), none, [0]⟩,
⟨some 41, .mv (.t 9), none, []⟩,
⟨some 42, .mv (.t 0), none, []⟩,
⟨some 43, .nilchk (.t 42), none, [3]⟩,
⟨some 44, .faddr 1 1 (.t 43), none, [4]⟩,
⟨some 45, .load 1 false (.t 44), none, [5]⟩,
⟨some 46, .mv (.t 9), none, []⟩,
⟨some 47, .lookup .str (.d (.int .i64 0)) false (.t 45) (.t 46), none, [6, 7]⟩,
⟨some 48, .build [.d (.str []), .d (.int .i64 0)] [(0, 1, (.t 41)), (1, 1, (.t 47))], none, [2, 8]⟩,
⟨some 49, .mkSlice 2 1 [.d (.str []), .d (.int .i64 0)] [(0, 2, (.t 48))], none, [9]⟩,
⟨some 50, .append 2 24 (.t 40) (.t 49), none, [1, 10]⟩,
⟨some 51, .faddr 1 1 (.t 4), none, [0, 1, 2, 3, 4, 5, 6, 7, 8, 9, 10, 11]⟩,
⟨none, .store 1 (.t 51) (.t 50), none, [12, 11, 11, 0, 1, 2, 3, 4, 5, 6, 7, 8, 9, 10, 11]⟩]
def f206.r14 : List IOper := [
⟨some 52, .bin .add (.t 35) (.c (.d (.int .i64 1))), none, []⟩,
⟨some 35, .mv (.t 52), none, []⟩]
def f206.l15 : IR := (.seq (.region f206.r11) (.seq (.cond (.t 36) .skip (.exit 2)) (.seq (.block 3 (.seq (.region f206.r12) (.draw f206.r13))) (.region f206.r14))))
def f206.r16 : List IOper := [
⟨some 53, .load 2 true (.t 4), none, []⟩,
⟨some 54, .call 89 [(.t 53)], none, []⟩,
⟨some 55, .un .not (.t 54), none, []⟩]
def f206.r17 : List IOper := [
⟨some 56, .build [.d (.int .i64 0), .nils] [], none, []⟩,
⟨none, .store 2 (.t 2) (.t 56), none, []⟩,
⟨some 3, .mv (.c (.d (.int .i64 3))), none, []⟩]
def f206.r18 : List IOper := [
⟨some 57, .load 2 true (.t 4), none, []⟩,
⟨none, .store 2 (.t 2) (.t 57), none, []⟩,
⟨some 3, .mv (.c (.d (.int .i64 0))), none, []⟩]
def f206 : IFn := ⟨1, 58, [.cell 2 2 true, .t 3], (.seq (.region f206.r0) (.seq (.region f206.r1) (.seq (.region f206.r2) (.seq (.seq (.region f206.r3) (.block 0 (.loop f206.l8))) (.seq (.region f206.r9) (.seq (.seq (.region f206.r10) (.block 2 (.loop f206.l15))) (.seq (.seq (.region f206.r16) (.cond (.t 55) (.seq (.region f206.r17) .ret) .skip)) (.seq (.region f206.r18) .ret))))))))⟩
def f212.r0 : List IOper := [
⟨some 8, .mv (.t 1), none, []⟩,
⟨some 9, .bin .add (.t 8) (.c (.d (.int .i64 1))), none, []⟩,
⟨some 6, .mv (.t 9), none, []⟩]
def f212.r1 : List IOper := [
⟨some 10, .mv (.t 6), none, []⟩,
⟨some 11, .mv (.t 2), none, []⟩,
⟨some 12, .bin .lss (.t 10) (.t 11), none, []⟩]
def f212.r2 : List IOper := [
⟨some 15, .mv (.t 6), none, []⟩,
⟨some 7, .mv (.t 15), none, []⟩]
def f212.r3 : List IOper := [
⟨some 16, .mv (.t 7), none, []⟩,
⟨some 17, .mv (.t 1), none, []⟩,
⟨some 18, .bin .gtr (.t 16) (.t 17), none, [0, 1]⟩,
⟨some 19, .mv (.t 18), none, [2]⟩,
⟨some 20, .mv (.t 0), some (19, true), [3]⟩,
⟨some 21, .mv (.t 7), some (19, true), [3]⟩,
⟨some 22, .iaddr 1 (.t 20) (.t 21), some (19, true), [4, 5, 3]⟩,
⟨some 23, .load 1 false (.t 22), some (19, true), [6, 3]⟩,
⟨some 24, .mv (.t 0), some (19, true), [3]⟩,
⟨some 25, .mv (.t 7), some (19, true), [3]⟩,
⟨some 26, .bin .sub (.t 25) (.c (.d (.int .i64 1))), some (19, true), [9, 3]⟩,
⟨some 27, .iaddr 1 (.t 24) (.t 26), some (19, true), [8, 10, 3]⟩,
⟨some 28, .load 1 false (.t 27), some (19, true), [11, 3]⟩,
⟨some 29, .call 218 [(.t 23), (.t 28)], some (19, true), [7, 12, 3, 3]⟩,
⟨some 30, .pick (.t 19) (.t 29) (.c (.d (.bool false))), none, [3, 13]⟩]
def f212.r4 : List IOper := [
⟨some 33, .mv (.t 0), none, []⟩,
⟨some 34, .mv (.t 7), none, []⟩,
⟨some 35, .mv (.t 0), none, []⟩,
⟨some 36, .mv (.t 7), none, []⟩,
⟨some 37, .bin .sub (.t 36) (.c (.d (.int .i64 1))), none, [3]⟩,
⟨some 38, .mv (.t 0), none, []⟩,
⟨some 39, .mv (.t 7), none, []⟩,
⟨some 40, .bin .sub (.t 39) (.c (.d (.int .i64 1))), none, [6]⟩,
⟨some 41, .iaddr 1 (.t 38) (.t 40), none, [5, 7]⟩,
⟨some 42, .load 1 false (.t 41), none, [8]⟩,
⟨some 43, .mv (.t 0), none, []⟩,
⟨some 44, .mv (.t 7), none, []⟩,
⟨some 45, .iaddr 1 (.t 43) (.t 44), none, [10, 11]⟩,
⟨some 46, .load 1 false (.t 45), none, [12]⟩,
⟨some 47, .iaddr 1 (.t 33) (.t 34), none, [0, 1, 0, 1, 5, 6, 7, 8, 9, 13]⟩,
⟨none, .store 1 (.t 47) (.t 42), none, [14, 9, 0, 1, 5, 6, 7, 8, 9, 13]⟩,
⟨some 48, .iaddr 1 (.t 35) (.t 37), none, [2, 4, 0, 1, 2, 3, 4, 5, 6, 7, 8, 9, 10, 11, 12, 13, 14, 15]⟩,
⟨none, .store 1 (.t 48) (.t 46), none, [16, 13, 15, 0, 1, 2, 3, 4, 5, 6, 7, 8, 9, 10, 11, 12, 13, 14, 15]⟩]
def f212.r5 : List IOper := [
⟨some 31, .mv (.t 7), none, []⟩,
⟨some 32, .bin .sub (.t 31) (.c (.d (.int .i64 1))), none, []⟩,
⟨some 7, .mv (.t 32), none, []⟩]
def f212.l6 : IR := (.seq (.seq (.draw f212.r3) (.cond (.t 30) .skip (.exit 2))) (.seq (.block 3 (.draw f212.r4)) (.region f212.r5)))
def f212.r7 : List IOper := [
⟨some 13, .mv (.t 6), none, []⟩,
⟨some 14, .bin .add (.t 13) (.c (.d (.int .i64 1))), none, []⟩,
⟨some 6, .mv (.t 14), none, []⟩]
def f212.l8 : IR := (.seq (.seq (.region f212.r1) (.cond (.t 12) .skip (.exit 0))) (.seq (.block 1 (.seq (.region f212.r2) (.block 2 (.loop f212.l6)))) (.region f212.r7)))
def f212 : IFn := ⟨3, 49, [], (.seq (.region f212.r0) (.block 0 (.loop f212.l8)))⟩
def f222.r0 : List IOper := [
⟨some 2, .mv (.c (.d (.int .i64 0))), none, []⟩]
def f222.r1 : List IOper := [
⟨some 3, .mv (.t 0), none, []⟩,
⟨some 4, .bin .geq (.t 3) (.c (.d (.int .u64 4294967296))), none, []⟩]
def f222.r2 : List IOper := [
⟨some 5, .mv (.t 0), none, []⟩,
⟨some 6, .bin .shr (.t 5) (.c (.d (.int .u64 32))), none, []⟩,
⟨some 0, .mv (.t 6), none, []⟩]
def f222.r3 : List IOper := [
⟨some 2, .mv (.c (.d (.int .i64 32))), none, []⟩]
def f222.r4 : List IOper := [
⟨some 7, .mv (.t 0), none, []⟩,
⟨some 8, .bin .geq (.t 7) (.c (.d (.int .u64 65536))), none, []⟩]
def f222.r5 : List IOper := [
⟨some 9, .mv (.t 0), none, []⟩,
⟨some 10, .bin .shr (.t 9) (.c (.d (.int .u64 16))), none, []⟩,
⟨some 0, .mv (.t 10), none, []⟩]
def f222.r6 : List IOper := [
⟨some 11, .mv (.t 2), none, []⟩,
⟨some 12, .bin .add (.t 11) (.c (.d (.int .i64 16))), none, []⟩,
⟨some 2, .mv (.t 12), none, []⟩]
def f222.r7 : List IOper := [
⟨some 13, .mv (.t 0), none, []⟩,
⟨some 14, .bin .geq (.t 13) (.c (.d (.int .u64 256))), none, []⟩]
def f222.r8 : List IOper := [
⟨some 15, .mv (.t 0), none, []⟩,
⟨some 16, .bin .shr (.t 15) (.c (.d (.int .u64 8))), none, []⟩,
⟨some 0, .mv (.t 16), none, []⟩]
def f222.r9 : List IOper := [
⟨some 17, .mv (.t 2), none, []⟩,
⟨some 18, .bin .add (.t 17) (.c (.d (.int .i64 8))), none, []⟩,
⟨some 2, .mv (.t 18), none, []⟩]
def f222.r10 : List IOper := [
⟨some 19, .mv (.t 2), none, []⟩,
⟨some 20, .mv (.t 0), none, []⟩,
⟨some 21, .conv .u8 (.t 20), none, []⟩,
⟨some 22, .idxS (.c (.d (.str [0, 1, 2, 2, 3, 3, 3, 3, 4, 4, 4, 4, 4, 4, 4, 4, 5, 5, 5, 5, 5, 5, 5, 5, 5, 5, 5, 5, 5, 5, 5, 5, 6, 6, 6, 6, 6, 6, 6, 6, 6, 6, 6, 6, 6, 6, 6, 6, 6, 6, 6, 6, 6, 6, 6, 6, 6, 6, 6, 6, 6, 6, 6, 6, 7, 7, 7, 7, 7, 7, 7, 7, 7, 7, 7, 7, 7, 7, 7, 7, 7, 7, 7, 7, 7, 7, 7, 7, 7, 7, 7, 7, 7, 7, 7, 7, 7, 7, 7, 7, 7, 7, 7, 7, 7, 7, 7, 7, 7, 7, 7, 7, 7, 7, 7, 7, 7, 7, 7, 7, 7, 7, 7, 7, 7, 7, 7, 7, 8, 8, 8, 8, 8, 8, 8, 8, 8, 8, 8, 8, 8, 8, 8, 8, 8, 8, 8, 8, 8, 8, 8, 8, 8, 8, 8, 8, 8, 8, 8, 8, 8, 8, 8, 8, 8, 8, 8, 8, 8, 8, 8, 8, 8, 8, 8, 8, 8, 8, 8, 8, 8, 8, 8, 8, 8, 8, 8, 8, 8, 8, 8, 8, 8, 8, 8, 8, 8, 8, 8, 8, 8, 8, 8, 8, 8, 8, 8, 8, 8, 8, 8, 8, 8, 8, 8, 8, 8, 8, 8, 8, 8, 8, 8, 8, 8, 8, 8, 8, 8, 8, 8, 8, 8, 8, 8, 8, 8, 8, 8, 8, 8, 8, 8, 8, 8, 8, 8, 8, 8, 8, 8, 8, 8, 8, 8, 8]))) (.t 21), none, []⟩,
⟨some 23, .conv .i64 (.t 22), none, []⟩,
⟨some 24, .bin .add (.t 19) (.t 23), none, []⟩,
⟨some 2, .mv (.t 24), none, []⟩]
def f222 : IFn := ⟨1, 25, [.t 2], (.seq (.region f222.r0) (.seq (.seq (.region f222.r1) (.cond (.t 4) (.seq (.region f222.r2) (.region f222.r3)) .skip)) (.seq (.seq (.region f222.r4) (.cond (.t 8) (.seq (.region f222.r5) (.region f222.r6)) .skip)) (.seq (.seq (.region f222.r7) (.cond (.t 14) (.seq (.region f222.r8) (.region f222.r9)) .skip)) (.seq (.region f222.r10) .ret)))))⟩
def f227.r0 : List IOper := [
⟨some 4, .mv (.c (.d (.bool false))), none, []⟩]
def f227.r1 : List IOper := [
⟨some 11, .mv (.t 0), none, []⟩,
⟨some 12, .nilchk (.t 11), none, []⟩,
⟨some 13, .faddr 0 1 (.t 12), none, []⟩,
⟨some 14, .load 1 false (.t 13), none, []⟩,
⟨some 15, .bin .eql (.t 14) (.c (.d (.str []))), none, []⟩]
def f227.r2 : List IOper := [
⟨some 4, .mv (.c (.d (.bool false))), none, []⟩]
def f227.r3 : List IOper := [
⟨some 16, .mv (.t 0), none, []⟩,
⟨some 17, .nilchk (.t 16), none, []⟩,
⟨some 18, .faddr 0 1 (.t 17), none, []⟩,
⟨some 19, .load 1 false (.t 18), none, []⟩,
⟨some 20, .idxS (.t 19) (.c (.d (.int .i64 0))), none, []⟩,
⟨some 21, .call 268 [(.t 20)], none, []⟩,
⟨some 22, .un .not (.t 21), none, []⟩]
def f227.r4 : List IOper := [
⟨some 24, .mv (.t 0), none, []⟩,
⟨some 25, .call 269 [(.t 24)], none, []⟩,
⟨some 23, .mv (.t 25), none, []⟩,
⟨some 26, .ext (.t 23) 0, none, []⟩,
⟨some 27, .ext (.t 23) 1, none, []⟩,
⟨some 5, .mv (.t 26), none, []⟩,
⟨some 6, .mv (.t 27), none, []⟩]
def f227.r5 : List IOper := [
⟨some 28, .mv (.t 0), none, []⟩,
⟨some 29, .nilchk (.t 28), none, []⟩,
⟨some 30, .faddr 1 2 (.t 29), none, []⟩,
⟨some 31, .faddr 1 1 (.t 30), none, []⟩,
⟨some 32, .load 1 false (.t 31), none, []⟩,
⟨some 33, .mv (.t 5), none, []⟩,
⟨some 34, .lookup .str (.d (.int .i64 0)) false (.t 32) (.t 33), none, []⟩,
⟨some 35, .mv (.t 1), none, []⟩,
⟨some 36, .bin .add (.t 34) (.t 35), none, []⟩,
⟨none, .mapUpd .str (.t 32) (.t 33) (.t 36), none, []⟩]
def f227.r6 : List IOper := [
⟨some 37, .mv (.t 6), none, []⟩,
⟨some 4, .mv (.t 37), none, []⟩]
def f227.r7 : List IOper := [
⟨some 39, .mv (.t 0), none, []⟩,
⟨some 40, .call 270 [(.t 39)], none, []⟩,
⟨some 38, .mv (.t 40), none, []⟩,
⟨some 41, .ext (.t 38) 0, none, []⟩,
⟨some 42, .ext (.t 38) 1, none, []⟩,
⟨some 7, .mv (.t 41), none, []⟩,
⟨some 8, .mv (.t 42), none, []⟩]
def f227.r8 : List IOper := [
⟨some 43, .mv (.t 8), none, []⟩,
⟨some 44, .un .not (.t 43), none, []⟩]
def f227.r9 : List IOper := [
⟨some 4, .mv (.c (.d (.bool false))), none, []⟩]
def f227.r10 : List IOper := [
⟨some 45, .mv (.t 0), none, []⟩,
⟨some 46, .nilchk (.t 45), none, []⟩,
⟨some 47, .faddr 0 1 (.t 46), none, []⟩,
⟨some 48, .load 1 false (.t 47), none, []⟩,
⟨some 49, .call 271 [(.t 48), (.c (.d (.str [32])))], none, []⟩,
⟨some 9, .mv (.t 49), none, []⟩]
def f227.r11 : List IOper := [
⟨some 51, .mv (.t 9), none, []⟩,
⟨some 52, .call 172 [(.t 51), (.c (.d (.str [42])))], none, []⟩,
⟨some 50, .mv (.t 52), none, []⟩]
def f227.r12 : List IOper := [
⟨some 53, .mv (.t 0), none, []⟩,
⟨some 54, .mv (.t 9), none, []⟩,
⟨some 55, .sslice (.t 54) (some (.c (.d (.int .i64 1)))) none, none, []⟩,
⟨some 56, .nilchk (.t 53), none, []⟩,
⟨some 57, .faddr 0 1 (.t 56), none, []⟩,
⟨none, .store 1 (.t 57) (.t 55), none, []⟩]
def f227.r13 : List IOper := [
⟨some 58, .mv (.t 0), none, []⟩,
⟨some 59, .call 228 [(.t 58)], none, []⟩]
def f227.r14 : List IOper := [
⟨some 61, .mv (.t 0), none, []⟩,
⟨some 62, .nilchk (.t 61), none, []⟩,
⟨some 63, .faddr 0 1 (.t 62), none, []⟩,
⟨some 64, .load 1 false (.t 63), none, []⟩,
⟨some 65, .bin .eql (.t 64) (.c (.d (.str []))), none, []⟩,
⟨some 66, .mv (.t 65), none, []⟩,
⟨some 67, .mv (.t 0), some (66, false), []⟩,
⟨some 68, .nilchk (.t 67), some (66, false), []⟩,
⟨some 69, .faddr 0 1 (.t 68), some (66, false), []⟩,
⟨some 70, .load 1 false (.t 69), some (66, false), []⟩,
⟨some 71, .idxS (.t 70) (.c (.d (.int .i64 0))), some (66, false), []⟩,
⟨some 72, .call 272 [(.t 71)], some (66, false), []⟩,
⟨some 73, .un .not (.t 72), some (66, false), []⟩,
⟨some 74, .pick (.t 66) (.c (.d (.bool true))) (.t 73), none, []⟩,
⟨some 60, .mv (.t 74), none, []⟩]
def f227.r15 : List IOper := [
⟨some 75, .mv (.t 0), none, []⟩,
⟨some 76, .nilchk (.t 75), none, []⟩,
⟨some 77, .faddr 1 2 (.t 76), none, []⟩,
⟨some 78, .faddr 0 1 (.t 77), none, []⟩,
⟨some 79, .load 1 false (.t 78), none, []⟩,
⟨some 80, .mv (.t 1), none, []⟩,
⟨some 81, .mv (.t 7), none, []⟩,
⟨some 82, .bin .mul (.t 80) (.t 81), none, []⟩,
⟨some 83, .bin .add (.t 79) (.t 82), none, []⟩,
⟨some 84, .nilchk (.t 75), none, []⟩,
⟨some 85, .faddr 1 2 (.t 84), none, []⟩,
⟨some 86, .faddr 0 1 (.t 85), none, []⟩,
⟨none, .store 1 (.t 86) (.t 83), none, []⟩]
def f227.r16 : List IOper := [
⟨some 4, .mv (.c (.d (.bool true))), none, []⟩]
def f227.r17 : List IOper := [
⟨some 88, .mv (.t 0), none, []⟩,
⟨some 89, .call 269 [(.t 88)], none, []⟩,
⟨some 87, .mv (.t 89), none, []⟩,
⟨some 90, .ext (.t 87) 0, none, []⟩,
⟨some 91, .ext (.t 87) 1, none, []⟩,
⟨some 10, .mv (.t 90), none, []⟩,
⟨some 8, .mv (.t 91), none, []⟩]
def f227.r18 : List IOper := [
⟨some 92, .mv (.t 0), none, []⟩,
⟨some 93, .nilchk (.t 92), none, []⟩,
⟨some 94, .faddr 1 2 (.t 93), none, []⟩,
⟨some 95, .faddr 1 1 (.t 94), none, []⟩,
⟨some 96, .load 1 false (.t 95), none, []⟩,
⟨some 97, .mv (.t 10), none, []⟩,
⟨some 98, .lookup .str (.d (.int .i64 0)) false (.t 96) (.t 97), none, []⟩,
⟨some 99, .mv (.t 1), none, []⟩,
⟨some 100, .mv (.t 7), none, []⟩,
⟨some 101, .bin .mul (.t 99) (.t 100), none, []⟩,
⟨some 102, .bin .add (.t 98) (.t 101), none, []⟩,
⟨none, .mapUpd .str (.t 96) (.t 97) (.t 102), none, []⟩]
def f227.r19 : List IOper := [
⟨some 103, .mv (.t 8), none, []⟩,
⟨some 4, .mv (.t 103), none, []⟩]
def f227 : IFn := ⟨2, 104, [.t 4], (.seq (.region f227.r0) (.seq (.seq (.region f227.r1) (.cond (.t 15) (.seq (.region f227.r2) .ret) .skip)) (.seq (.seq (.region f227.r3) (.cond (.t 22) (.seq (.region f227.r4) (.seq (.region f227.r5) (.seq (.region f227.r6) .ret))) .skip)) (.seq (.region f227.r7) (.seq (.seq (.region f227.r8) (.cond (.t 44) (.seq (.region f227.r9) .ret) .skip)) (.seq (.region f227.r10) (.seq (.block 0 (.seq (.region f227.r11) (.cond (.t 50) (.seq (.region f227.r12) (.region f227.r13)) (.seq (.region f227.r14) (.cond (.t 60) (.seq (.region f227.r15) (.seq (.region f227.r16) .ret)) .skip))))) (.seq (.region f227.r17) (.seq (.region f227.r18) (.seq (.region f227.r19) .ret))))))))))⟩
def f228.r0 : List IOper := [
⟨some 2, .mv (.t 0), none, []⟩,
⟨some 3, .mv (.t 0), none, []⟩,
⟨some 4, .nilchk (.t 3), none, []⟩,
⟨some 5, .faddr 0 1 (.t 4), none, []⟩,
⟨some 6, .load 1 false (.t 5), none, []⟩,
⟨some 7, .call 271 [(.t 6), (.c (.d (.str [32])))], none, []⟩,
⟨some 8, .nilchk (.t 2), none, []⟩,
⟨some 9, .faddr 0 1 (.t 8), none, []⟩,
⟨none, .store 1 (.t 9) (.t 7), none, []⟩]
def f228 : IFn := ⟨1, 10, [], (.region f228.r0)⟩
def f229.r0 : List IOper := [
⟨some 2, .mv (.c (.d (.int .i64 0))), none, []⟩,
⟨some 3, .mv (.c (.d (.bool false))), none, []⟩]
def f229.r1 : List IOper := [
⟨some 6, .build [.d (.str []), .d (.str [])] [(0, 1, (.c (.d (.str [43])))), (1, 1, (.c (.d (.str [45]))))], none, []⟩,
⟨some 7, .mv (.c (.d (.int .i64 0))), none, []⟩]
def f229.r2 : List IOper := [
⟨some 8, .bin .lss (.t 7) (.c (.d (.int .i64 2))), none, []⟩]
def f229.r3 : List IOper := [
⟨some 9, .mv (.t 7), none, []⟩,
⟨some 10, .idxA 2 1 false (.t 6) (.t 7), none, []⟩,
⟨some 4, .mv (.t 9), none, []⟩,
⟨some 5, .mv (.t 10), none, []⟩]
def f229.r4 : List IOper := [
⟨some 11, .mv (.t 0), none, []⟩,
⟨some 12, .nilchk (.t 11), none, []⟩,
⟨some 13, .faddr 0 1 (.t 12), none, []⟩,
⟨some 14, .load 1 false (.t 13), none, []⟩,
⟨some 15, .mv (.t 5), none, []⟩,
⟨some 16, .call 172 [(.t 14), (.t 15)], none, []⟩]
def f229.r5 : List IOper := [
⟨some 17, .mv (.t 0), none, []⟩,
⟨some 18, .mv (.t 0), none, []⟩,
⟨some 19, .nilchk (.t 18), none, []⟩,
⟨some 20, .faddr 0 1 (.t 19), none, []⟩,
⟨some 21, .load 1 false (.t 20), none, []⟩,
⟨some 22, .sslice (.t 21) (some (.c (.d (.int .i64 1)))) none, none, []⟩,
⟨some 23, .nilchk (.t 17), none, []⟩,
⟨some 24, .faddr 0 1 (.t 23), none, []⟩,
⟨none, .store 1 (.t 24) (.t 22), none, []⟩]
def f229.r6 : List IOper := [
⟨some 25, .mv (.t 4), none, []⟩,
⟨some 26, .bin .mul (.c (.d (.int .i64 2))) (.t 25), none, []⟩,
⟨some 27, .bin .sub (.c (.d (.int .i64 1))) (.t 26), none, []⟩,
⟨some 2, .mv (.t 27), none, []⟩,
⟨some 3, .mv (.c (.d (.bool true))), none, []⟩]
def f229.r7 : List IOper := [
⟨some 28, .bin .add (.t 7) (.c (.d (.int .i64 1))), none, []⟩,
⟨some 7, .mv (.t 28), none, []⟩]
def f229.l8 : IR := (.seq (.region f229.r2) (.seq (.cond (.t 8) .skip (.exit 0)) (.seq (.block 1 (.seq (.region f229.r3) (.seq (.region f229.r4) (.cond (.t 16) (.seq (.region f229.r5) (.seq (.region f229.r6) .ret)) .skip)))) (.region f229.r7))))
def f229.r9 : List IOper := [
⟨some 2, .mv (.c (.d (.int .i64 1))), none, []⟩,
⟨some 3, .mv (.c (.d (.bool false))), none, []⟩]
def f229 : IFn := ⟨1, 29, [.t 2, .t 3], (.seq (.region f229.r0) (.seq (.seq (.region f229.r1) (.block 0 (.loop f229.l8))) (.seq (.region f229.r9) .ret)))⟩
def f232.r0 : List IOper := [
⟨some 1, .box 2 (.t 0), none, []⟩,
⟨some 2, .mv (.c (.d (.str []))), none, []⟩]
def f232.r1 : List IOper := [
⟨some 7, .load 2 true (.t 1), none, []⟩,
⟨some 8, .call 89 [(.t 7)], none, []⟩,
⟨some 9, .un .not (.t 8), none, []⟩]
def f232.r2 : List IOper := [
⟨some 2, .mv (.c (.d (.str []))), none, []⟩]
def f232.r3 : List IOper := [
⟨some 3, .alloc [.d (.str [])], none, []⟩,
⟨none, .store 1 (.t 3) (.c (.d (.str []))), none, []⟩]
def f232.r4 : List IOper := [
⟨some 10, .mkfunc 274 [] [(.t 3)], none, []⟩,
⟨some 4, .mv (.t 10), none, []⟩]
def f232.r5 : List IOper := [
⟨some 11, .faddr 1 1 (.t 1), none, []⟩,
⟨some 12, .load 1 false (.t 11), none, []⟩,
⟨some 13, .len .slice (.t 12), none, []⟩,
⟨some 14, .mv (.c (.d (.int .i64 0))), none, []⟩]
def f232.r6 : List IOper := [
⟨some 15, .bin .lss (.t 14) (.t 13), none, []⟩]
def f232.r7 : List IOper := [
⟨some 16, .iaddr 2 (.t 12) (.t 14), none, []⟩,
⟨some 17, .load 2 true (.t 16), none, []⟩,
⟨some 6, .alloc [.d (.str []), .d (.int .i64 0)], none, []⟩,
⟨none, .store 2 (.t 6) (.t 17), none, []⟩]
def f232.r8 : List IOper := [
⟨some 18, .mv (.t 4), none, []⟩,
⟨some 19, .faddr 1 1 (.t 6), none, []⟩,
⟨some 20, .load 1 false (.t 19), none, []⟩,
⟨some 21, .faddr 0 1 (.t 6), none, []⟩,
⟨some 22, .load 1 false (.t 21), none, []⟩,
⟨some 23, .callv (.t 18) [(.t 20), (.t 22)], none, []⟩]
def f232.r9 : List IOper := [
⟨some 24, .bin .add (.t 14) (.c (.d (.int .i64 1))), none, []⟩,
⟨some 14, .mv (.t 24), none, []⟩]
def f232.l10 : IR := (.seq (.region f232.r6) (.seq (.cond (.t 15) .skip (.exit 0)) (.seq (.block 1 (.seq (.region f232.r7) (.region f232.r8))) (.region f232.r9))))
def f232.r11 : List IOper := [
⟨some 25, .faddr 0 1 (.t 1), none, []⟩,
⟨some 26, .load 1 false (.t 25), none, []⟩,
⟨some 27, .bin .neq (.t 26) (.c (.d (.int .i64 0))), none, []⟩,
⟨some 28, .mv (.t 27), none, []⟩,
⟨some 29, .load 1 false (.t 3), some (28, false), []⟩,
⟨some 30, .bin .eql (.t 29) (.c (.d (.str []))), some (28, false), []⟩,
⟨some 31, .pick (.t 28) (.c (.d (.bool true))) (.t 30), none, []⟩]
def f232.r12 : List IOper := [
⟨some 32, .mv (.t 4), none, []⟩,
⟨some 33, .faddr 0 1 (.t 1), none, []⟩,
⟨some 34, .load 1 false (.t 33), none, []⟩,
⟨some 35, .callv (.t 32) [(.t 34), (.c (.d (.str [])))], none, []⟩]
def f232.r13 : List IOper := [
⟨some 36, .load 1 false (.t 3), none, []⟩,
⟨some 2, .mv (.t 36), none, []⟩]
def f232 : IFn := ⟨1, 37, [.t 2], (.seq (.region f232.r0) (.seq (.seq (.region f232.r1) (.cond (.t 9) (.seq (.region f232.r2) .ret) .skip)) (.seq (.region f232.r3) (.seq (.region f232.r4) (.seq (.seq (.region f232.r5) (.block 0 (.loop f232.l10))) (.seq (.seq (.region f232.r11) (.cond (.t 31) (.region f232.r12) .skip)) (.seq (.region f232.r13) .ret)))))))⟩
def f236.r0 : List IOper := [
⟨some 1, .box 2 (.t 0), none, []⟩,
⟨some 2, .mv (.c (.d (.str []))), none, []⟩]
def f236.r1 : List IOper := [
⟨some 3, .mv (.c (.nils)), none, []⟩]
def f236.r2 : List IOper := [
⟨some 6, .faddr 0 1 (.t 1), none, []⟩,
⟨some 7, .load 1 false (.t 6), none, []⟩,
⟨some 8, .bin .neq (.t 7) (.c (.d (.str []))), none, []⟩]
def f236.r3 : List IOper := [
⟨some 9, .mv (.t 3), none, []⟩,
⟨some 10, .faddr 0 1 (.t 1), none, []⟩,
⟨some 11, .load 1 false (.t 10), none, []⟩,
⟨some 12, .bin .add (.t 11) (.c (.d (.str [46, 46]))), none, []⟩,
⟨some 13, .mkSlice 1 1 [.d (.str [])] [(0, 1, (.t 12))], none, []⟩,
⟨some 14, .append 1 16 (.t 9) (.t 13), none, []⟩,
⟨some 3, .mv (.t 14), none, []⟩]
def f236.r4 : List IOper := [
⟨some 15, .faddr 1 1 (.t 1), none, []⟩,
⟨some 16, .load 1 false (.t 15), none, []⟩,
⟨some 17, .len .slice (.t 16), none, []⟩,
⟨some 18, .mv (.c (.d (.int .i64 0))), none, []⟩]
def f236.r5 : List IOper := [
⟨some 19, .bin .lss (.t 18) (.t 17), none, []⟩]
def f236.r6 : List IOper := [
⟨some 20, .iaddr 2 (.t 16) (.t 18), none, []⟩,
⟨some 21, .load 2 true (.t 20), none, []⟩,
⟨some 5, .alloc [.d (.int .i64 0), .nils], none, []⟩,
⟨none, .store 2 (.t 5) (.t 21), none, []⟩]
def f236.r7 : List IOper := [
⟨some 22, .mv (.t 3), none, []⟩,
⟨some 23, .load 2 true (.t 5), none, []⟩,
⟨some 24, .call 232 [(.t 23)], none, []⟩,
⟨some 25, .mkSlice 1 1 [.d (.str [])] [(0, 1, (.t 24))], none, []⟩,
⟨some 26, .append 1 16 (.t 22) (.t 25), none, []⟩,
⟨some 3, .mv (.t 26), none, []⟩]
def f236.r8 : List IOper := [
⟨some 27, .bin .add (.t 18) (.c (.d (.int .i64 1))), none, []⟩,
⟨some 18, .mv (.t 27), none, []⟩]
def f236.l9 : IR := (.seq (.region f236.r5) (.seq (.cond (.t 19) .skip (.exit 0)) (.seq (.block 1 (.seq (.region f236.r6) (.region f236.r7))) (.region f236.r8))))
def f236.r10 : List IOper := [
⟨some 28, .mv (.t 3), none, []⟩,
⟨some 29, .call 273 [(.t 28), (.c (.d (.str [44, 32])))], none, []⟩,
⟨some 30, .bin .add (.c (.d (.str [91]))) (.t 29), none, []⟩,
⟨some 31, .bin .add (.t 30) (.c (.d (.str [93]))), none, []⟩,
⟨some 2, .mv (.t 31), none, []⟩]
def f236 : IFn := ⟨1, 32, [.t 2], (.seq (.region f236.r0) (.seq (.region f236.r1) (.seq (.seq (.region f236.r2) (.cond (.t 8) (.region f236.r3) .skip)) (.seq (.seq (.region f236.r4) (.block 0 (.loop f236.l9))) (.seq (.region f236.r10) .ret)))))⟩
def f237.r0 : List IOper := [
⟨some 1, .box 2 (.t 0), none, []⟩,
⟨some 2, .mv (.c (.d (.str []))), none, []⟩,
⟨some 3, .mv (.c (.d (.int .i64 0))), none, []⟩]
def f237.r1 : List IOper := [
⟨some 4, .load 2 true (.t 1), none, []⟩,
⟨some 5, .call 59 [(.t 4)], none, []⟩,
⟨some 6, .un .not (.t 5), none, []⟩]
def f237.r2 : List IOper := [
⟨some 2, .mv (.c (.d (.str []))), none, []⟩,
⟨some 3, .mv (.c (.d (.int .i64 1))), none, []⟩]
def f237.r3 : List IOper := [
⟨some 7, .load 2 true (.t 1), none, []⟩,
⟨some 8, .call 236 [(.t 7)], none, []⟩,
⟨some 2, .mv (.t 8), none, []⟩,
⟨some 3, .mv (.c (.d (.int .i64 0))), none, []⟩]
def f237 : IFn := ⟨1, 9, [.t 2, .t 3], (.seq (.region f237.r0) (.seq (.seq (.region f237.r1) (.cond (.t 6) (.seq (.region f237.r2) .ret) .skip)) (.seq (.region f237.r3) .ret)))⟩
def f248.r0 : List IOper := [
⟨some 4, .mv (.c (.nils)), none, []⟩]
def f248.r1 : List IOper := [
⟨some 5, .mv (.t 1), none, []⟩,
⟨some 6, .bin .lss (.t 5) (.c (.d (.int .i64 0))), none, []⟩]
def f248.r2 : List IOper := [
⟨some 7, .mkiface 9 (.c (.d (.str [99, 97, 110, 110, 111, 116, 32, 98, 101, 32, 110, 101, 103, 97, 116, 105, 118, 101]))), none, []⟩,
⟨none, .bad, none, []⟩]
def f248.r3 : List IOper := [
⟨some 8, .mv (.t 1), none, []⟩,
⟨some 9, .mv (.t 0), none, []⟩,
⟨some 10, .cap (.t 9), none, []⟩,
⟨some 11, .mv (.t 0), none, []⟩,
⟨some 12, .len .slice (.t 11), none, []⟩,
⟨some 13, .bin .sub (.t 10) (.t 12), none, []⟩,
⟨some 14, .bin .sub (.t 8) (.t 13), none, []⟩,
⟨some 1, .mv (.t 14), none, []⟩]
def f248.r4 : List IOper := [
⟨some 15, .mv (.t 1), none, []⟩,
⟨some 16, .bin .gtr (.t 15) (.c (.d (.int .i64 0))), none, []⟩]
def f248.r5 : List IOper := [
⟨some 17, .mv (.t 0), none, []⟩,
⟨some 18, .mv (.t 0), none, []⟩,
⟨some 19, .cap (.t 18), none, []⟩,
⟨some 20, .lslice 2 (.t 17) none (some (.t 19)), none, []⟩,
⟨some 21, .mv (.t 1), none, []⟩,
⟨some 22, .appendN 2 32 [.d (.int .i64 0), .nils] (.t 20) (.t 21), none, []⟩,
⟨some 23, .mv (.t 0), none, []⟩,
⟨some 24, .len .slice (.t 23), none, []⟩,
⟨some 25, .lslice 2 (.t 22) none (some (.t 24)), none, []⟩,
⟨some 0, .mv (.t 25), none, []⟩]
def f248.r6 : List IOper := [
⟨some 26, .mv (.t 0), none, []⟩,
⟨some 4, .mv (.t 26), none, []⟩]
def f248 : IFn := ⟨2, 27, [.t 4], (.seq (.region f248.r0) (.seq (.seq (.region f248.r1) (.cond (.t 6) (.region f248.r2) .skip)) (.seq (.seq (.region f248.r3) (.seq (.region f248.r4) (.cond (.t 16) (.region f248.r5) .skip))) (.seq (.region f248.r6) .ret))))⟩
def f249.r0 : List IOper := [
⟨some 4, .mv (.c (.d (.bool false))), none, []⟩]
def f249.r1 : List IOper := [
⟨some 6, .mv (.t 0), none, []⟩,
⟨some 7, .len .slice (.t 6), none, []⟩,
⟨some 8, .mv (.t 1), none, []⟩,
⟨some 9, .len .slice (.t 8), none, []⟩,
⟨some 10, .bin .neq (.t 7) (.t 9), none, []⟩]
def f249.r2 : List IOper := [
⟨some 4, .mv (.c (.d (.bool false))), none, []⟩]
def f249.r3 : List IOper := [
⟨some 11, .mv (.t 0), none, []⟩,
⟨some 12, .len .slice (.t 11), none, []⟩,
⟨some 13, .mv (.c (.d (.int .i64 0))), none, []⟩]
def f249.r4 : List IOper := [
⟨some 14, .bin .lss (.t 13) (.t 12), none, []⟩]
def f249.r5 : List IOper := [
⟨some 15, .mv (.t 13), none, []⟩,
⟨some 5, .mv (.t 15), none, []⟩]
def f249.r6 : List IOper := [
⟨some 16, .mv (.t 0), none, []⟩,
⟨some 17, .mv (.t 5), none, []⟩,
⟨some 18, .iaddr 2 (.t 16) (.t 17), none, [0, 1]⟩,
⟨some 19, .load 2 true (.t 18), none, [2]⟩,
⟨some 20, .mv (.t 1), none, []⟩,
⟨some 21, .mv (.t 5), none, []⟩,
⟨some 22, .iaddr 2 (.t 20) (.t 21), none, [4, 5]⟩,
⟨some 23, .load 2 true (.t 22), none, [6]⟩,
⟨some 24, .eqS true [.str, .int] (.t 19) (.t 23), none, [3, 7]⟩]
def f249.r7 : List IOper := [
⟨some 4, .mv (.c (.d (.bool false))), none, []⟩]
def f249.r8 : List IOper := [
⟨some 25, .bin .add (.t 13) (.c (.d (.int .i64 1))), none, []⟩,
⟨some 13, .mv (.t 25), none, []⟩]
def f249.l9 : IR := (.seq (.region f249.r4) (.seq (.cond (.t 14) .skip (.exit 0)) (.seq (.block 1 (.seq (.region f249.r5) (.seq (.draw f249.r6) (.cond (.t 24) (.seq (.region f249.r7) .ret) .skip)))) (.region f249.r8))))
def f249.r10 : List IOper := [
⟨some 4, .mv (.c (.d (.bool true))), none, []⟩]
def f249 : IFn := ⟨2, 26, [.t 4], (.seq (.region f249.r0) (.seq (.seq (.region f249.r1) (.cond (.t 10) (.seq (.region f249.r2) .ret) .skip)) (.seq (.seq (.region f249.r3) (.block 0 (.loop f249.l9))) (.seq (.region f249.r10) .ret))))⟩
def f268.r0 : List IOper := [
⟨some 2, .mv (.c (.d (.bool false))), none, []⟩]
def f268.r1 : List IOper := [
⟨some 3, .mv (.t 0), none, []⟩,
⟨some 4, .bin .geq (.t 3) (.c (.d (.int .u8 48))), none, []⟩,
⟨some 5, .mv (.t 4), none, []⟩,
⟨some 6, .mv (.t 0), some (5, true), []⟩,
⟨some 7, .bin .leq (.t 6) (.c (.d (.int .u8 57))), some (5, true), []⟩,
⟨some 8, .pick (.t 5) (.t 7) (.c (.d (.bool false))), none, []⟩,
⟨some 2, .mv (.t 8), none, []⟩]
def f268 : IFn := ⟨1, 9, [.t 2], (.seq (.region f268.r0) (.seq (.region f268.r1) .ret))⟩
def f269.r0 : List IOper := [
⟨some 2, .mv (.c (.d (.str []))), none, []⟩,
⟨some 3, .mv (.c (.d (.bool false))), none, []⟩]
def f269.r1 : List IOper := [
⟨some 5, .mv (.t 0), none, []⟩,
⟨some 6, .call 299 [(.t 5), (.f 272)], none, []⟩,
⟨some 4, .mv (.t 6), none, []⟩]
def f269.r2 : List IOper := [
⟨some 7, .mv (.t 4), none, []⟩,
⟨some 8, .mv (.t 4), none, []⟩,
⟨some 9, .call 115 [(.t 8)], none, []⟩,
⟨some 2, .mv (.t 7), none, []⟩,
⟨some 3, .mv (.t 9), none, []⟩]
def f269 : IFn := ⟨1, 10, [.t 2, .t 3], (.seq (.region f269.r0) (.seq (.region f269.r1) (.seq (.region f269.r2) .ret)))⟩
def f270.r0 : List IOper := [
⟨some 2, .mv (.c (.d (.int .i64 0))), none, []⟩,
⟨some 3, .mv (.c (.d (.bool false))), none, []⟩]
def f270.r1 : List IOper := [
⟨some 7, .mv (.t 0), none, []⟩,
⟨some 8, .call 299 [(.t 7), (.f 268)], none, []⟩,
⟨some 4, .mv (.t 8), none, []⟩]
def f270.r2 : List IOper := [
⟨some 10, .mv (.t 4), none, []⟩,
⟨some 11, .call 173 [(.t 10)], none, []⟩,
⟨some 9, .mv (.t 11), none, []⟩,
⟨some 12, .ext (.t 9) 0, none, []⟩,
⟨some 13, .ext (.t 9) 1, none, []⟩,
⟨some 5, .mv (.t 12), none, []⟩,
⟨some 6, .mv (.t 13), none, []⟩]
def f270.r3 : List IOper := [
⟨some 14, .mv (.t 5), none, []⟩,
⟨some 15, .mv (.t 6), none, []⟩,
⟨some 16, .eq false .iface (.t 15) (.c (.nili)), none, []⟩,
⟨some 17, .mv (.t 16), none, []⟩,
⟨some 18, .mv (.t 4), some (17, true), []⟩,
⟨some 19, .len .str (.t 18), some (17, true), []⟩,
⟨some 20, .bin .leq (.t 19) (.c (.d (.int .i64 7))), some (17, true), []⟩,
⟨some 21, .pick (.t 17) (.t 20) (.c (.d (.bool false))), none, []⟩,
⟨some 22, .mv (.t 21), none, []⟩,
⟨some 23, .mv (.t 4), some (22, true), []⟩,
⟨some 24, .idxS (.t 23) (.c (.d (.int .i64 0))), some (22, true), []⟩,
⟨some 25, .bin .neq (.t 24) (.c (.d (.int .u8 48))), some (22, true), []⟩,
⟨some 26, .mv (.t 25), some (22, true), []⟩,
⟨some 27, .mv (.t 4), some (26, false), []⟩,
⟨some 28, .bin .eql (.t 27) (.c (.d (.str [48]))), some (26, false), []⟩,
⟨some 29, .pick (.t 26) (.c (.d (.bool true))) (.t 28), some (22, true), []⟩,
⟨some 30, .pick (.t 22) (.t 29) (.c (.d (.bool false))), none, []⟩,
⟨some 2, .mv (.t 14), none, []⟩,
⟨some 3, .mv (.t 30), none, []⟩]
def f270 : IFn := ⟨1, 31, [.t 2, .t 3], (.seq (.region f270.r0) (.seq (.region f270.r1) (.seq (.region f270.r2) (.seq (.region f270.r3) .ret))))⟩
def f272.r0 : List IOper := [
⟨some 2, .mv (.c (.d (.bool false))), none, []⟩]
def f272.r1 : List IOper := [
⟨some 3, .mv (.t 0), none, []⟩,
⟨some 4, .bin .geq (.t 3) (.c (.d (.int .u8 97))), none, []⟩,
⟨some 5, .mv (.t 4), none, []⟩,
⟨some 6, .mv (.t 0), some (5, true), []⟩,
⟨some 7, .bin .leq (.t 6) (.c (.d (.int .u8 122))), some (5, true), []⟩,
⟨some 8, .pick (.t 5) (.t 7) (.c (.d (.bool false))), none, []⟩,
⟨some 9, .mv (.t 8), none, []⟩,
⟨some 10, .mv (.t 0), some (9, false), []⟩,
⟨some 11, .bin .eql (.t 10) (.c (.d (.int .u8 95))), some (9, false), []⟩,
⟨some 12, .pick (.t 9) (.c (.d (.bool true))) (.t 11), none, []⟩,
⟨some 13, .mv (.t 12), none, []⟩,
⟨some 14, .mv (.t 0), some (13, false), []⟩,
⟨some 15, .call 268 [(.t 14)], some (13, false), []⟩,
⟨some 16, .pick (.t 13) (.c (.d (.bool true))) (.t 15), none, []⟩,
⟨some 2, .mv (.t 16), none, []⟩]
def f272 : IFn := ⟨1, 17, [.t 2], (.seq (.region f272.r0) (.seq (.region f272.r1) .ret))⟩
def f274.r0 : List IOper := [
⟨some 6, .mv (.t 0), none, []⟩,
⟨some 7, .call 107 [(.t 6)], none, []⟩,
⟨some 5, .mv (.t 7), none, []⟩]
def f274.r1 : List IOper := [
⟨some 8, .mv (.t 1), none, []⟩,
⟨some 9, .bin .neq (.t 8) (.c (.d (.str []))), none, []⟩,
⟨some 10, .mv (.t 9), none, []⟩,
⟨some 11, .mv (.t 0), some (10, true), []⟩,
⟨some 12, .bin .eql (.t 11) (.c (.d (.int .i64 1))), some (10, true), []⟩,
⟨some 13, .mv (.t 12), some (10, true), []⟩,
⟨some 14, .mv (.t 0), some (13, false), []⟩,
⟨some 15, .bin .eql (.t 14) (.c (.d (.int .i64 (-1)))), some (13, false), []⟩,
⟨some 16, .pick (.t 13) (.c (.d (.bool true))) (.t 15), some (10, true), []⟩,
⟨some 17, .pick (.t 10) (.t 16) (.c (.d (.bool false))), none, []⟩]
def f274.r2 : List IOper := [
⟨some 18, .mv (.t 5), none, []⟩,
⟨some 19, .call 275 [(.t 18), (.c (.d (.str [49])))], none, []⟩,
⟨some 5, .mv (.t 19), none, []⟩]
def f274.r3 : List IOper := [
⟨some 20, .mv (.t 0), none, []⟩,
⟨some 21, .bin .geq (.t 20) (.c (.d (.int .i64 0))), none, []⟩,
⟨some 22, .mv (.t 21), none, []⟩,
⟨some 23, .load 1 false (.t 2), some (22, true), []⟩,
⟨some 24, .bin .neq (.t 23) (.c (.d (.str []))), some (22, true), []⟩,
⟨some 25, .pick (.t 22) (.t 24) (.c (.d (.bool false))), none, []⟩]
def f274.r4 : List IOper := [
⟨some 26, .load 1 false (.t 2), none, []⟩,
⟨some 27, .bin .add (.t 26) (.c (.d (.str [43]))), none, []⟩,
⟨none, .store 1 (.t 2) (.t 27), none, []⟩]
def f274.r5 : List IOper := [
⟨some 28, .load 1 false (.t 2), none, []⟩,
⟨some 29, .mv (.t 5), none, []⟩,
⟨some 30, .mv (.t 1), none, []⟩,
⟨some 31, .bin .add (.t 29) (.t 30), none, []⟩,
⟨some 32, .bin .add (.t 28) (.t 31), none, []⟩,
⟨none, .store 1 (.t 2) (.t 32), none, []⟩]
def f274 : IFn := ⟨3, 33, [], (.seq (.region f274.r0) (.seq (.seq (.region f274.r1) (.cond (.t 17) (.region f274.r2) .skip)) (.seq (.seq (.region f274.r3) (.cond (.t 25) (.region f274.r4) .skip)) (.region f274.r5))))⟩
def f282.r0 : List IOper := [
⟨some 4, .mv (.c (.d (.bool false))), none, []⟩]
def f282.r1 : List IOper := [
⟨some 5, .mv (.t 0), none, []⟩,
⟨some 6, .mv (.t 1), none, []⟩,
⟨some 7, .nilchk (.t 5), none, []⟩,
⟨some 8, .iaddrA 256 1 (.t 7) (.t 6), none, []⟩,
⟨some 9, .load 1 false (.t 8), none, []⟩,
⟨some 4, .mv (.t 9), none, []⟩]
def f282 : IFn := ⟨2, 10, [.t 4], (.seq (.region f282.r0) (.seq (.region f282.r1) .ret))⟩
def f299.r0 : List IOper := [
⟨some 4, .mv (.c (.d (.str []))), none, []⟩]
def f299.r1 : List IOper := [
⟨some 5, .mv (.c (.d (.int .i64 0))), none, []⟩]
def f299.r2 : List IOper := [
⟨some 7, .mv (.t 5), none, []⟩,
⟨some 8, .mv (.t 0), none, []⟩,
⟨some 9, .nilchk (.t 8), none, []⟩,
⟨some 10, .faddr 0 1 (.t 9), none, []⟩,
⟨some 11, .load 1 false (.t 10), none, []⟩,
⟨some 12, .len .str (.t 11), none, []⟩,
⟨some 13, .bin .lss (.t 7) (.t 12), none, []⟩,
⟨some 14, .mv (.t 13), none, []⟩,
⟨some 15, .mv (.t 1), some (14, true), []⟩,
⟨some 16, .mv (.t 0), some (14, true), []⟩,
⟨some 17, .nilchk (.t 16), some (14, true), []⟩,
⟨some 18, .faddr 0 1 (.t 17), some (14, true), []⟩,
⟨some 19, .load 1 false (.t 18), some (14, true), []⟩,
⟨some 20, .mv (.t 5), some (14, true), []⟩,
⟨some 21, .idxS (.t 19) (.t 20), some (14, true), []⟩,
⟨some 22, .callv (.t 15) [(.t 21)], some (14, true), []⟩,
⟨some 23, .pick (.t 14) (.t 22) (.c (.d (.bool false))), none, []⟩]
def f299.r3 : List IOper := [
⟨some 24, .mv (.t 5), none, []⟩,
⟨some 25, .bin .add (.t 24) (.c (.d (.int .i64 1))), none, []⟩,
⟨some 5, .mv (.t 25), none, []⟩]
def f299.l4 : IR := (.seq (.seq (.region f299.r2) (.cond (.t 23) .skip (.exit 0))) (.block 1 (.region f299.r3)))
def f299.r5 : List IOper := [
⟨some 26, .mv (.t 0), none, []⟩,
⟨some 27, .nilchk (.t 26), none, []⟩,
⟨some 28, .faddr 0 1 (.t 27), none, []⟩,
⟨some 29, .load 1 false (.t 28), none, []⟩,
⟨some 30, .mv (.t 5), none, []⟩,
⟨some 31, .sslice (.t 29) none (some (.t 30)), none, []⟩,
⟨some 6, .mv (.t 31), none, []⟩]
def f299.r6 : List IOper := [
⟨some 32, .mv (.t 0), none, []⟩,
⟨some 33, .mv (.t 0), none, []⟩,
⟨some 34, .nilchk (.t 33), none, []⟩,
⟨some 35, .faddr 0 1 (.t 34), none, []⟩,
⟨some 36, .load 1 false (.t 35), none, []⟩,
⟨some 37, .mv (.t 5), none, []⟩,
⟨some 38, .sslice (.t 36) (some (.t 37)) none, none, []⟩,
⟨some 39, .nilchk (.t 32), none, []⟩,
⟨some 40, .faddr 0 1 (.t 39), none, []⟩,
⟨none, .store 1 (.t 40) (.t 38), none, []⟩]
def f299.r7 : List IOper := [
⟨some 41, .mv (.t 6), none, []⟩,
⟨some 4, .mv (.t 41), none, []⟩]
def f299 : IFn := ⟨2, 42, [.t 4], (.seq (.region f299.r0) (.seq (.region f299.r1) (.seq (.block 0 (.loop f299.l4)) (.seq (.region f299.r5) (.seq (.region f299.r6) (.seq (.region f299.r7) .ret))))))⟩

end Fw.X
