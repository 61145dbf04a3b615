/- Code of the program's functions, as operations of the abstract machine. -/
import Derived.Test.YtgfgckimecpmlaaGreatDoorFa
namespace Fw.X
open Go
def f3.r0 : List IOper := [
⟨some 1, .box 18 (.t 0), none, []⟩,
⟨some 2, .mv (.c (.d (.bool false))), none, []⟩]
def f3.r1 : List IOper := [
⟨some 9, .call 12 [], none, []⟩,
⟨some 10, .un .not (.t 9), none, []⟩,
⟨some 11, .mv (.t 10), none, []⟩,
⟨some 12, .load 18 true (.t 1), some (11, false), []⟩,
⟨some 13, .call 13 [(.t 12)], some (11, false), []⟩,
⟨some 14, .un .not (.t 13), some (11, false), []⟩,
⟨some 15, .pick (.t 11) (.c (.d (.bool true))) (.t 14), none, []⟩]
def f3.r2 : List IOper := [
⟨some 16, .call 12 [], none, []⟩,
⟨some 2, .mv (.t 16), none, []⟩]
def f3.r3 : List IOper := [
⟨some 18, .load 18 true (.t 1), none, []⟩,
⟨some 19, .call 14 [(.t 18)], none, []⟩,
⟨some 17, .mv (.t 19), none, []⟩,
⟨some 20, .ext (.t 17) 0, none, []⟩,
⟨some 21, .ext (.t 17) 1, none, []⟩,
⟨some 22, .ext (.t 17) 2, none, []⟩,
⟨some 3, .alloc [.d (.str []), .nils], none, []⟩,
⟨none, .store 2 (.t 3) (.t 20), none, []⟩,
⟨some 4, .mv (.t 21), none, []⟩,
⟨some 5, .mv (.t 22), none, []⟩]
def f3.r4 : List IOper := [
⟨some 24, .load 18 true (.t 1), none, []⟩,
⟨some 25, .call 15 [(.t 24)], none, []⟩,
⟨some 23, .mv (.t 25), none, []⟩,
⟨some 26, .ext (.t 23) 0, none, []⟩,
⟨some 27, .ext (.t 23) 1, none, []⟩,
⟨some 28, .ext (.t 23) 2, none, []⟩,
⟨some 6, .alloc [.d (.str []), .nils], none, []⟩,
⟨none, .store 2 (.t 6) (.t 26), none, []⟩,
⟨some 7, .mv (.t 27), none, []⟩,
⟨some 8, .mv (.t 28), none, []⟩]
def f3.r5 : List IOper := [
⟨some 29, .load 18 true (.t 1), none, []⟩,
⟨some 30, .call 16 [(.t 29)], none, [0]⟩,
⟨some 31, .load 18 true (.t 1), none, []⟩,
⟨some 32, .call 17 [(.t 31)], none, [2, 1]⟩,
⟨some 33, .eq false .bool (.t 30) (.t 32), none, [1, 3]⟩,
⟨some 34, .mv (.t 33), none, [4, 3]⟩,
⟨some 35, .load 18 true (.t 1), some (34, true), [5]⟩,
⟨some 36, .call 18 [(.t 35)], some (34, true), [6, 5, 5]⟩,
⟨some 37, .load 18 true (.t 1), some (34, true), [5]⟩,
⟨some 38, .call 19 [(.t 37)], some (34, true), [8, 7, 5]⟩,
⟨some 39, .eq false .bool (.t 36) (.t 38), some (34, true), [7, 9, 5]⟩,
⟨some 40, .pick (.t 34) (.t 39) (.c (.d (.bool false))), none, [5, 10]⟩,
⟨some 41, .mv (.t 40), none, [11, 9]⟩,
⟨some 42, .load 2 true (.t 3), some (41, true), [12]⟩,
⟨some 43, .load 2 true (.t 6), some (41, true), [12]⟩,
⟨some 44, .call 20 [(.t 42), (.t 43)], some (41, true), [13, 14, 12, 12]⟩,
⟨some 45, .pick (.t 41) (.t 44) (.c (.d (.bool false))), none, [12, 15]⟩,
⟨some 46, .mv (.t 45), none, [16, 15]⟩,
⟨some 47, .mv (.t 4), some (46, true), [17]⟩,
⟨some 48, .mv (.t 7), some (46, true), [17]⟩,
⟨some 49, .call 21 [(.t 47), (.t 48)], some (46, true), [18, 19, 17, 17]⟩,
⟨some 50, .pick (.t 46) (.t 49) (.c (.d (.bool false))), none, [17, 20]⟩,
⟨some 51, .mv (.t 50), none, [21, 20]⟩,
⟨some 52, .mv (.t 5), some (51, true), [22]⟩,
⟨some 53, .mv (.t 8), some (51, true), [22]⟩,
⟨some 54, .bin .eql (.t 52) (.t 53), some (51, true), [23, 24, 22]⟩,
⟨some 55, .pick (.t 51) (.t 54) (.c (.d (.bool false))), none, [22, 25]⟩,
⟨some 2, .mv (.t 55), none, [26, 22, 0, 1, 2, 3, 4, 5, 6, 7, 8, 9, 10, 11, 12, 13, 14, 15, 16, 17, 18, 19, 20, 21, 22, 23, 24, 25, 26]⟩]
def f3 : IFn := ⟨1, 56, [.t 2], (.seq (.region f3.r0) (.seq (.seq (.region f3.r1) (.cond (.t 15) (.seq (.region f3.r2) .ret) .skip)) (.seq (.region f3.r3) (.seq (.region f3.r4) (.seq (.draw f3.r5) .ret)))))⟩
def f13.r0 : List IOper := [
⟨some 1, .box 18 (.t 0), none, []⟩,
⟨some 2, .mv (.c (.d (.bool false))), none, []⟩]
def f13.r1 : List IOper := [
⟨some 3, .mv (.c (.d (.int .i64 0))), none, []⟩]
def f13.r2 : List IOper := [
⟨some 5, .mv (.t 3), none, []⟩,
⟨some 6, .faddr 8 1 (.t 1), none, []⟩,
⟨some 7, .load 1 false (.t 6), none, []⟩,
⟨some 8, .len .slice (.t 7), none, []⟩,
⟨some 9, .bin .lss (.t 5) (.t 8), none, []⟩,
⟨some 10, .mv (.t 9), none, []⟩,
⟨some 11, .mv (.t 3), some (10, true), []⟩,
⟨some 12, .bin .lss (.t 11) (.c (.d (.int .i64 18))), some (10, true), []⟩,
⟨some 13, .pick (.t 10) (.t 12) (.c (.d (.bool false))), none, []⟩]
def f13.r3 : List IOper := [
⟨some 16, .faddr 8 1 (.t 1), none, []⟩,
⟨some 17, .load 1 false (.t 16), none, []⟩,
⟨some 18, .mv (.t 3), none, []⟩,
⟨some 19, .iaddr 3 (.t 17) (.t 18), none, []⟩,
⟨some 20, .load 3 true (.t 19), none, []⟩,
⟨some 21, .call 32 [(.t 20)], none, []⟩,
⟨some 22, .un .not (.t 21), none, []⟩]
def f13.r4 : List IOper := [
⟨some 2, .mv (.c (.d (.bool false))), none, []⟩]
def f13.r5 : List IOper := [
⟨some 14, .mv (.t 3), none, []⟩,
⟨some 15, .bin .add (.t 14) (.c (.d (.int .i64 1))), none, []⟩,
⟨some 3, .mv (.t 15), none, []⟩]
def f13.l6 : IR := (.seq (.seq (.region f13.r2) (.cond (.t 13) .skip (.exit 0))) (.seq (.block 1 (.seq (.region f13.r3) (.cond (.t 22) (.seq (.region f13.r4) .ret) .skip))) (.region f13.r5)))
def f13.r7 : List IOper := [
⟨some 4, .mv (.c (.d (.int .i64 0))), none, []⟩]
def f13.r8 : List IOper := [
⟨some 23, .mv (.t 4), none, []⟩,
⟨some 24, .faddr 9 1 (.t 1), none, []⟩,
⟨some 25, .load 1 false (.t 24), none, []⟩,
⟨some 26, .len .slice (.t 25), none, []⟩,
⟨some 27, .bin .lss (.t 23) (.t 26), none, []⟩,
⟨some 28, .mv (.t 27), none, []⟩,
⟨some 29, .mv (.t 4), some (28, true), []⟩,
⟨some 30, .bin .lss (.t 29) (.c (.d (.int .i64 18))), some (28, true), []⟩,
⟨some 31, .pick (.t 28) (.t 30) (.c (.d (.bool false))), none, []⟩]
def f13.r9 : List IOper := [
⟨some 34, .faddr 9 1 (.t 1), none, []⟩,
⟨some 35, .load 1 false (.t 34), none, []⟩,
⟨some 36, .mv (.t 4), none, []⟩,
⟨some 37, .iaddr 3 (.t 35) (.t 36), none, []⟩,
⟨some 38, .load 3 true (.t 37), none, []⟩,
⟨some 39, .call 32 [(.t 38)], none, []⟩,
⟨some 40, .un .not (.t 39), none, []⟩]
def f13.r10 : List IOper := [
⟨some 2, .mv (.c (.d (.bool false))), none, []⟩]
def f13.r11 : List IOper := [
⟨some 32, .mv (.t 4), none, []⟩,
⟨some 33, .bin .add (.t 32) (.c (.d (.int .i64 1))), none, []⟩,
⟨some 4, .mv (.t 33), none, []⟩]
def f13.l12 : IR := (.seq (.seq (.region f13.r8) (.cond (.t 31) .skip (.exit 2))) (.seq (.block 3 (.seq (.region f13.r9) (.cond (.t 40) (.seq (.region f13.r10) .ret) .skip))) (.region f13.r11)))
def f13.r13 : List IOper := [
⟨some 41, .faddr 8 1 (.t 1), none, []⟩,
⟨some 42, .load 1 false (.t 41), none, []⟩,
⟨some 43, .len .slice (.t 42), none, []⟩,
⟨some 44, .bin .leq (.t 43) (.c (.d (.int .i64 17))), none, []⟩,
⟨some 45, .mv (.t 44), none, []⟩,
⟨some 46, .faddr 9 1 (.t 1), some (45, true), []⟩,
⟨some 47, .load 1 false (.t 46), some (45, true), []⟩,
⟨some 48, .len .slice (.t 47), some (45, true), []⟩,
⟨some 49, .bin .leq (.t 48) (.c (.d (.int .i64 17))), some (45, true), []⟩,
⟨some 50, .pick (.t 45) (.t 49) (.c (.d (.bool false))), none, []⟩,
⟨some 51, .mv (.t 50), none, []⟩,
⟨some 52, .faddr 10 3 (.t 1), some (51, true), []⟩,
⟨some 53, .load 3 true (.t 52), some (51, true), []⟩,
⟨some 54, .call 32 [(.t 53)], some (51, true), []⟩,
⟨some 55, .pick (.t 51) (.t 54) (.c (.d (.bool false))), none, []⟩,
⟨some 56, .mv (.t 55), none, []⟩,
⟨some 57, .faddr 13 3 (.t 1), some (56, true), []⟩,
⟨some 58, .load 3 true (.t 57), some (56, true), []⟩,
⟨some 59, .call 32 [(.t 58)], some (56, true), []⟩,
⟨some 60, .pick (.t 56) (.t 59) (.c (.d (.bool false))), none, []⟩,
⟨some 61, .mv (.t 60), none, []⟩,
⟨some 62, .faddr 2 3 (.t 1), some (61, true), []⟩,
⟨some 63, .load 3 true (.t 62), some (61, true), []⟩,
⟨some 64, .call 32 [(.t 63)], some (61, true), []⟩,
⟨some 65, .pick (.t 61) (.t 64) (.c (.d (.bool false))), none, []⟩,
⟨some 66, .mv (.t 65), none, []⟩,
⟨some 67, .faddr 5 3 (.t 1), some (66, true), []⟩,
⟨some 68, .load 3 true (.t 67), some (66, true), []⟩,
⟨some 69, .call 32 [(.t 68)], some (66, true), []⟩,
⟨some 70, .pick (.t 66) (.t 69) (.c (.d (.bool false))), none, []⟩,
⟨some 71, .mv (.t 70), none, []⟩,
⟨some 72, .faddr 16 2 (.t 1), some (71, true), []⟩,
⟨some 73, .load 2 true (.t 72), some (71, true), []⟩,
⟨some 74, .mkSlice 2 1 [.d (.int .i64 0), .nils] [(0, 2, (.t 73))], some (71, true), []⟩,
⟨some 75, .build [.d (.str []), .nils] [(1, 1, (.t 74))], some (71, true), []⟩,
⟨some 76, .call 22 [(.t 75)], some (71, true), []⟩,
⟨some 77, .pick (.t 71) (.t 76) (.c (.d (.bool false))), none, []⟩,
⟨some 2, .mv (.t 77), none, []⟩]
def f13 : IFn := ⟨1, 78, [.t 2], (.seq (.region f13.r0) (.seq (.seq (.region f13.r1) (.block 0 (.loop f13.l6))) (.seq (.seq (.region f13.r7) (.block 2 (.loop f13.l12))) (.seq (.region f13.r13) .ret))))⟩
def f14.r0 : List IOper := [
⟨some 1, .box 18 (.t 0), none, []⟩,
⟨some 2, .alloc [.d (.str []), .nils], none, []⟩,
⟨some 3, .mv (.c (.nils)), none, []⟩,
⟨some 4, .mv (.c (.d (.int .i64 0))), none, []⟩]
def f14.r1 : List IOper := [
⟨some 8, .load 18 true (.t 1), none, []⟩,
⟨some 9, .call 18 [(.t 8)], none, []⟩,
⟨some 10, .un .not (.t 9), none, []⟩]
def f14.r2 : List IOper := [
⟨some 11, .build [.d (.str []), .nils] [], none, []⟩,
⟨none, .store 2 (.t 2) (.t 11), none, []⟩,
⟨some 3, .mv (.c (.nils)), none, []⟩,
⟨some 4, .mv (.c (.d (.int .i64 1))), none, []⟩]
def f14.r3 : List IOper := [
⟨some 12, .faddr 8 1 (.t 1), none, []⟩,
⟨some 13, .load 1 false (.t 12), none, []⟩,
⟨some 14, .len .slice (.t 13), none, []⟩,
⟨some 15, .mv (.c (.d (.int .i64 0))), none, []⟩]
def f14.r4 : List IOper := [
⟨some 16, .bin .lss (.t 15) (.t 14), none, []⟩]
def f14.r5 : List IOper := [
⟨some 17, .mv (.t 15), none, []⟩,
⟨some 18, .iaddr 3 (.t 13) (.t 15), none, []⟩,
⟨some 19, .load 3 true (.t 18), none, []⟩,
⟨some 6, .alloc [.d (.str []), .d (.str []), .nils], none, []⟩,
⟨some 5, .mv (.t 17), none, []⟩,
⟨none, .store 3 (.t 6) (.t 19), none, []⟩]
def f14.r6 : List IOper := [
⟨some 20, .faddr 1 2 (.t 6), none, []⟩,
⟨some 21, .faddr 1 1 (.t 20), none, [0]⟩,
⟨some 22, .load 1 false (.t 21), none, [1]⟩,
⟨some 23, .len .slice (.t 22), none, [2]⟩,
⟨some 24, .faddr 9 1 (.t 1), none, []⟩,
⟨some 25, .load 1 false (.t 24), none, [4]⟩,
⟨some 26, .mv (.t 5), none, []⟩,
⟨some 27, .iaddr 3 (.t 25) (.t 26), none, [5, 6]⟩,
⟨some 28, .faddr 1 2 (.t 27), none, [7]⟩,
⟨some 29, .faddr 1 1 (.t 28), none, [8]⟩,
⟨some 30, .load 1 false (.t 29), none, [9]⟩,
⟨some 31, .len .slice (.t 30), none, [10]⟩,
⟨some 32, .bin .sub (.t 23) (.t 31), none, [3, 11]⟩,
⟨some 7, .mv (.t 32), none, [12, 0, 1, 2, 3, 4, 5, 6, 7, 8, 9, 10, 11, 12]⟩]
def f14.r7 : List IOper := [
⟨some 33, .mv (.t 7), none, []⟩,
⟨some 34, .bin .lss (.t 33) (.c (.d (.int .i64 0))), none, []⟩,
⟨some 35, .mv (.t 34), none, []⟩,
⟨some 36, .mv (.t 7), some (35, false), []⟩,
⟨some 37, .bin .gtr (.t 36) (.c (.d (.int .i64 0))), some (35, false), []⟩,
⟨some 38, .mv (.t 37), some (35, false), []⟩,
⟨some 39, .faddr 1 1 (.t 2), some (38, true), []⟩,
⟨some 40, .load 1 false (.t 39), some (38, true), []⟩,
⟨some 41, .len .slice (.t 40), some (38, true), []⟩,
⟨some 42, .bin .gtr (.t 41) (.c (.d (.int .i64 0))), some (38, true), []⟩,
⟨some 43, .pick (.t 38) (.t 42) (.c (.d (.bool false))), some (35, false), []⟩,
⟨some 44, .mv (.t 43), some (35, false), []⟩,
⟨some 45, .mv (.t 7), some (44, true), []⟩,
⟨some 46, .faddr 1 1 (.t 2), some (44, true), []⟩,
⟨some 47, .load 1 false (.t 46), some (44, true), []⟩,
⟨some 48, .len .slice (.t 47), some (44, true), []⟩,
⟨some 49, .bin .neq (.t 45) (.t 48), some (44, true), []⟩,
⟨some 50, .pick (.t 44) (.t 49) (.c (.d (.bool false))), some (35, false), []⟩,
⟨some 51, .pick (.t 35) (.c (.d (.bool true))) (.t 50), none, []⟩]
def f14.r8 : List IOper := [
⟨some 52, .build [.d (.str []), .nils] [], none, []⟩,
⟨none, .store 2 (.t 2) (.t 52), none, []⟩,
⟨some 3, .mv (.c (.nils)), none, []⟩,
⟨some 4, .mv (.c (.d (.int .i64 13))), none, []⟩]
def f14.r9 : List IOper := [
⟨some 53, .mv (.t 7), none, []⟩,
⟨some 54, .bin .gtr (.t 53) (.c (.d (.int .i64 0))), none, []⟩,
⟨some 55, .mv (.t 54), none, []⟩,
⟨some 56, .faddr 1 1 (.t 2), some (55, true), []⟩,
⟨some 57, .load 1 false (.t 56), some (55, true), []⟩,
⟨some 58, .len .slice (.t 57), some (55, true), []⟩,
⟨some 59, .bin .eql (.t 58) (.c (.d (.int .i64 0))), some (55, true), []⟩,
⟨some 60, .pick (.t 55) (.t 59) (.c (.d (.bool false))), none, []⟩]
def f14.r10 : List IOper := [
⟨some 62, .faddr 1 2 (.t 6), none, []⟩,
⟨some 63, .load 2 true (.t 62), none, [0]⟩,
⟨some 64, .faddr 9 1 (.t 1), none, []⟩,
⟨some 65, .load 1 false (.t 64), none, [2]⟩,
⟨some 66, .mv (.t 5), none, []⟩,
⟨some 67, .iaddr 3 (.t 65) (.t 66), none, [3, 4]⟩,
⟨some 68, .faddr 1 2 (.t 67), none, [5]⟩,
⟨some 69, .faddr 1 1 (.t 68), none, [6]⟩,
⟨some 70, .load 1 false (.t 69), none, [7]⟩,
⟨some 71, .len .slice (.t 70), none, [8]⟩,
⟨some 72, .call 50 [(.t 63), (.t 71)], none, [1, 9]⟩,
⟨some 61, .mv (.t 72), none, [10]⟩,
⟨some 73, .ext (.t 61) 0, none, [11]⟩,
⟨some 74, .ext (.t 61) 1, none, [11]⟩,
⟨some 75, .ext (.t 61) 2, none, [11]⟩,
⟨none, .store 2 (.t 2) (.t 73), none, [12, 10, 0, 1, 2, 3, 4, 5, 6, 7, 8, 9, 10, 11, 12]⟩]
def f14.r11 : List IOper := [
⟨some 76, .mv (.t 3), none, []⟩,
⟨some 77, .mv (.t 7), none, []⟩,
⟨some 78, .bin .gtr (.t 77) (.c (.d (.int .i64 0))), none, []⟩,
⟨some 79, .mkSlice 1 1 [.d (.bool false)] [(0, 1, (.t 78))], none, []⟩,
⟨some 80, .append 1 1 (.t 76) (.t 79), none, []⟩,
⟨some 3, .mv (.t 80), none, []⟩]
def f14.r12 : List IOper := [
⟨some 81, .bin .add (.t 15) (.c (.d (.int .i64 1))), none, []⟩,
⟨some 15, .mv (.t 81), none, []⟩]
def f14.l13 : IR := (.seq (.region f14.r4) (.seq (.cond (.t 16) .skip (.exit 0)) (.seq (.block 1 (.seq (.region f14.r5) (.seq (.draw f14.r6) (.seq (.seq (.region f14.r7) (.cond (.t 51) (.seq (.region f14.r8) .ret) .skip)) (.seq (.seq (.region f14.r9) (.cond (.t 60) (.draw f14.r10) .skip)) (.region f14.r11)))))) (.region f14.r12))))
def f14.r14 : List IOper := [
⟨some 82, .load 2 true (.t 2), none, []⟩,
⟨some 83, .mv (.t 3), none, []⟩,
⟨none, .store 2 (.t 2) (.t 82), none, []⟩,
⟨some 3, .mv (.t 83), none, []⟩,
⟨some 4, .mv (.c (.d (.int .i64 0))), none, []⟩]
def f14 : IFn := ⟨1, 84, [.cell 2 2 true, .t 3, .t 4], (.seq (.region f14.r0) (.seq (.seq (.region f14.r1) (.cond (.t 10) (.seq (.region f14.r2) .ret) .skip)) (.seq (.seq (.region f14.r3) (.block 0 (.loop f14.l13))) (.seq (.region f14.r14) .ret))))⟩
def f15.r0 : List IOper := [
⟨some 1, .box 18 (.t 0), none, []⟩,
⟨some 2, .alloc [.d (.str []), .nils], none, []⟩,
⟨some 3, .mv (.c (.nils)), none, []⟩,
⟨some 4, .mv (.c (.d (.int .i64 0))), none, []⟩]
def f15.r1 : List IOper := [
⟨some 10, .load 18 true (.t 1), none, []⟩,
⟨some 11, .call 19 [(.t 10)], none, []⟩,
⟨some 12, .un .not (.t 11), none, []⟩]
def f15.r2 : List IOper := [
⟨some 13, .build [.d (.str []), .nils] [], none, []⟩,
⟨none, .store 2 (.t 2) (.t 13), none, []⟩,
⟨some 3, .mv (.c (.nils)), none, []⟩,
⟨some 4, .mv (.c (.d (.int .i64 1))), none, []⟩]
def f15.r3 : List IOper := [
⟨some 5, .alloc [.d (.str []), .nils], none, []⟩]
def f15.r4 : List IOper := [
⟨some 6, .mv (.c (.nils)), none, []⟩]
def f15.r5 : List IOper := [
⟨some 7, .mv (.c (.d (.int .i64 0))), none, []⟩]
def f15.r6 : List IOper := [
⟨some 8, .mv (.c (.d (.int .i64 0))), none, []⟩]
def f15.r7 : List IOper := [
⟨some 14, .mv (.t 8), none, []⟩,
⟨some 15, .faddr 8 1 (.t 1), none, []⟩,
⟨some 16, .load 1 false (.t 15), none, []⟩,
⟨some 17, .len .slice (.t 16), none, []⟩,
⟨some 18, .bin .lss (.t 14) (.t 17), none, []⟩]
def f15.r8 : List IOper := [
⟨some 21, .faddr 8 1 (.t 1), none, []⟩,
⟨some 22, .load 1 false (.t 21), none, [0]⟩,
⟨some 23, .mv (.t 8), none, []⟩,
⟨some 24, .iaddr 3 (.t 22) (.t 23), none, [1, 2]⟩,
⟨some 25, .faddr 1 2 (.t 24), none, [3]⟩,
⟨some 26, .faddr 1 1 (.t 25), none, [4]⟩,
⟨some 27, .load 1 false (.t 26), none, [5]⟩,
⟨some 28, .len .slice (.t 27), none, [6]⟩,
⟨some 29, .faddr 9 1 (.t 1), none, []⟩,
⟨some 30, .load 1 false (.t 29), none, [8]⟩,
⟨some 31, .mv (.t 8), none, []⟩,
⟨some 32, .iaddr 3 (.t 30) (.t 31), none, [9, 10]⟩,
⟨some 33, .faddr 1 2 (.t 32), none, [11]⟩,
⟨some 34, .faddr 1 1 (.t 33), none, [12]⟩,
⟨some 35, .load 1 false (.t 34), none, [13]⟩,
⟨some 36, .len .slice (.t 35), none, [14]⟩,
⟨some 37, .bin .sub (.t 28) (.t 36), none, [7, 15]⟩,
⟨some 9, .mv (.t 37), none, [16, 0, 1, 2, 3, 4, 5, 6, 7, 8, 9, 10, 11, 12, 13, 14, 15, 16]⟩]
def f15.r9 : List IOper := [
⟨some 38, .mv (.t 9), none, []⟩,
⟨some 39, .bin .lss (.t 38) (.c (.d (.int .i64 0))), none, []⟩,
⟨some 40, .mv (.t 39), none, []⟩,
⟨some 41, .mv (.t 9), some (40, false), []⟩,
⟨some 42, .bin .gtr (.t 41) (.c (.d (.int .i64 0))), some (40, false), []⟩,
⟨some 43, .mv (.t 42), some (40, false), []⟩,
⟨some 44, .mv (.t 7), some (43, true), []⟩,
⟨some 45, .bin .gtr (.t 44) (.c (.d (.int .i64 0))), some (43, true), []⟩,
⟨some 46, .pick (.t 43) (.t 45) (.c (.d (.bool false))), some (40, false), []⟩,
⟨some 47, .mv (.t 46), some (40, false), []⟩,
⟨some 48, .mv (.t 9), some (47, true), []⟩,
⟨some 49, .mv (.t 7), some (47, true), []⟩,
⟨some 50, .bin .neq (.t 48) (.t 49), some (47, true), []⟩,
⟨some 51, .pick (.t 47) (.t 50) (.c (.d (.bool false))), some (40, false), []⟩,
⟨some 52, .pick (.t 40) (.c (.d (.bool true))) (.t 51), none, []⟩]
def f15.r10 : List IOper := [
⟨some 53, .build [.d (.str []), .nils] [], none, []⟩,
⟨none, .store 2 (.t 2) (.t 53), none, []⟩,
⟨some 3, .mv (.c (.nils)), none, []⟩,
⟨some 4, .mv (.c (.d (.int .i64 13))), none, []⟩]
def f15.r11 : List IOper := [
⟨some 54, .mv (.t 9), none, []⟩,
⟨some 55, .bin .gtr (.t 54) (.c (.d (.int .i64 0))), none, []⟩,
⟨some 56, .mv (.t 55), none, []⟩,
⟨some 57, .mv (.t 7), some (56, true), []⟩,
⟨some 58, .bin .eql (.t 57) (.c (.d (.int .i64 0))), some (56, true), []⟩,
⟨some 59, .pick (.t 56) (.t 58) (.c (.d (.bool false))), none, []⟩]
def f15.r12 : List IOper := [
⟨some 60, .mv (.t 9), none, []⟩,
⟨some 7, .mv (.t 60), none, []⟩]
def f15.r13 : List IOper := [
⟨some 61, .mkSlice 2 0 [] [], none, []⟩,
⟨some 62, .faddr 8 1 (.t 1), none, []⟩,
⟨some 63, .load 1 false (.t 62), none, []⟩,
⟨some 64, .mv (.t 8), none, []⟩,
⟨some 65, .iaddr 3 (.t 63) (.t 64), none, []⟩,
⟨some 66, .faddr 1 2 (.t 65), none, []⟩,
⟨some 67, .faddr 1 1 (.t 66), none, []⟩,
⟨some 68, .load 1 false (.t 67), none, []⟩,
⟨some 69, .mv (.t 9), none, []⟩,
⟨some 70, .lslice 2 (.t 68) none (some (.t 69)), none, []⟩,
⟨some 71, .append 2 32 (.t 61) (.t 70), none, []⟩,
⟨some 72, .build [.d (.str []), .nils] [(1, 1, (.t 71))], none, []⟩,
⟨none, .store 2 (.t 5) (.t 72), none, []⟩]
def f15.r14 : List IOper := [
⟨some 73, .mv (.t 6), none, []⟩,
⟨some 74, .mv (.t 9), none, []⟩,
⟨some 75, .bin .gtr (.t 74) (.c (.d (.int .i64 0))), none, []⟩,
⟨some 76, .mkSlice 1 1 [.d (.bool false)] [(0, 1, (.t 75))], none, []⟩,
⟨some 77, .append 1 1 (.t 73) (.t 76), none, []⟩,
⟨some 6, .mv (.t 77), none, []⟩]
def f15.r15 : List IOper := [
⟨some 19, .mv (.t 8), none, []⟩,
⟨some 20, .bin .add (.t 19) (.c (.d (.int .i64 1))), none, []⟩,
⟨some 8, .mv (.t 20), none, []⟩]
def f15.l16 : IR := (.seq (.seq (.region f15.r7) (.cond (.t 18) .skip (.exit 0))) (.seq (.block 1 (.seq (.draw f15.r8) (.seq (.seq (.region f15.r9) (.cond (.t 52) (.seq (.region f15.r10) .ret) .skip)) (.seq (.seq (.region f15.r11) (.cond (.t 59) (.seq (.region f15.r12) (.region f15.r13)) .skip)) (.region f15.r14))))) (.region f15.r15)))
def f15.r17 : List IOper := [
⟨some 78, .load 2 true (.t 5), none, []⟩,
⟨some 79, .mv (.t 6), none, []⟩,
⟨none, .store 2 (.t 2) (.t 78), none, []⟩,
⟨some 3, .mv (.t 79), none, []⟩,
⟨some 4, .mv (.c (.d (.int .i64 0))), none, []⟩]
def f15 : IFn := ⟨1, 80, [.cell 2 2 true, .t 3, .t 4], (.seq (.region f15.r0) (.seq (.seq (.region f15.r1) (.cond (.t 12) (.seq (.region f15.r2) .ret) .skip)) (.seq (.region f15.r3) (.seq (.region f15.r4) (.seq (.region f15.r5) (.seq (.seq (.region f15.r6) (.block 0 (.loop f15.l16))) (.seq (.region f15.r17) .ret)))))))⟩
def f16.r0 : List IOper := [
⟨some 1, .box 18 (.t 0), none, []⟩,
⟨some 2, .mv (.c (.d (.bool false))), none, []⟩]
def f16.r1 : List IOper := [
⟨some 4, .faddr 0 1 (.t 1), none, []⟩,
⟨some 5, .load 1 false (.t 4), none, []⟩,
⟨some 6, .bin .neq (.t 5) (.c (.d (.int .i64 2))), none, []⟩,
⟨some 7, .mv (.t 6), none, []⟩,
⟨some 8, .faddr 8 1 (.t 1), some (7, false), []⟩,
⟨some 9, .load 1 false (.t 8), some (7, false), []⟩,
⟨some 10, .len .slice (.t 9), some (7, false), []⟩,
⟨some 11, .faddr 9 1 (.t 1), some (7, false), []⟩,
⟨some 12, .load 1 false (.t 11), some (7, false), []⟩,
⟨some 13, .len .slice (.t 12), some (7, false), []⟩,
⟨some 14, .bin .neq (.t 10) (.t 13), some (7, false), []⟩,
⟨some 15, .pick (.t 7) (.c (.d (.bool true))) (.t 14), none, []⟩,
⟨some 16, .mv (.t 15), none, []⟩,
⟨some 17, .faddr 8 1 (.t 1), some (16, false), []⟩,
⟨some 18, .load 1 false (.t 17), some (16, false), []⟩,
⟨some 19, .len .slice (.t 18), some (16, false), []⟩,
⟨some 20, .bin .gtr (.t 19) (.c (.d (.int .i64 16))), some (16, false), []⟩,
⟨some 21, .pick (.t 16) (.c (.d (.bool true))) (.t 20), none, []⟩,
⟨some 22, .mv (.t 21), none, []⟩,
⟨some 23, .faddr 10 3 (.t 1), some (22, false), []⟩,
⟨some 24, .load 3 true (.t 23), some (22, false), []⟩,
⟨some 25, .call 51 [(.t 24)], some (22, false), []⟩,
⟨some 26, .un .not (.t 25), some (22, false), []⟩,
⟨some 27, .pick (.t 22) (.c (.d (.bool true))) (.t 26), none, []⟩,
⟨some 28, .mv (.t 27), none, []⟩,
⟨some 29, .faddr 13 3 (.t 1), some (28, false), []⟩,
⟨some 30, .load 3 true (.t 29), some (28, false), []⟩,
⟨some 31, .call 51 [(.t 30)], some (28, false), []⟩,
⟨some 32, .un .not (.t 31), some (28, false), []⟩,
⟨some 33, .pick (.t 28) (.c (.d (.bool true))) (.t 32), none, []⟩,
⟨some 34, .mv (.t 33), none, []⟩,
⟨some 35, .faddr 13 3 (.t 1), some (34, false), []⟩,
⟨some 36, .faddr 1 2 (.t 35), some (34, false), []⟩,
⟨some 37, .faddr 0 1 (.t 36), some (34, false), []⟩,
⟨some 38, .load 1 false (.t 37), some (34, false), []⟩,
⟨some 39, .bin .neq (.t 38) (.c (.d (.str []))), some (34, false), []⟩,
⟨some 40, .pick (.t 34) (.c (.d (.bool true))) (.t 39), none, []⟩]
def f16.r2 : List IOper := [
⟨some 2, .mv (.c (.d (.bool false))), none, []⟩]
def f16.r3 : List IOper := [
⟨some 3, .alloc [.nilf], none, []⟩,
⟨none, .store 1 (.t 3) (.f 52), none, []⟩]
def f16.r4 : List IOper := [
⟨some 41, .faddr 8 1 (.t 1), none, []⟩,
⟨some 42, .load 1 false (.t 41), none, []⟩,
⟨some 43, .load 1 false (.t 3), none, []⟩,
⟨some 44, .call 53 [(.t 42), (.t 43)], none, []⟩,
⟨some 45, .un .not (.t 44), none, []⟩,
⟨some 46, .mv (.t 45), none, []⟩,
⟨some 47, .faddr 9 1 (.t 1), some (46, true), []⟩,
⟨some 48, .load 1 false (.t 47), some (46, true), []⟩,
⟨some 49, .mkfunc 54 [] [(.t 3)], some (46, true), []⟩,
⟨some 50, .call 53 [(.t 48), (.t 49)], some (46, true), []⟩,
⟨some 51, .un .not (.t 50), some (46, true), []⟩,
⟨some 52, .pick (.t 46) (.t 51) (.c (.d (.bool false))), none, []⟩,
⟨some 2, .mv (.t 52), none, []⟩]
def f16 : IFn := ⟨1, 53, [.t 2], (.seq (.region f16.r0) (.seq (.seq (.region f16.r1) (.cond (.t 40) (.seq (.region f16.r2) .ret) .skip)) (.seq (.region f16.r3) (.seq (.region f16.r4) .ret))))⟩
def f17.r0 : List IOper := [
⟨some 1, .box 18 (.t 0), none, []⟩,
⟨some 2, .mv (.c (.d (.bool false))), none, []⟩]
def f17.r1 : List IOper := [
⟨some 4, .faddr 0 1 (.t 1), none, []⟩,
⟨some 5, .load 1 false (.t 4), none, []⟩,
⟨some 6, .bin .neq (.t 5) (.c (.d (.int .i64 2))), none, []⟩,
⟨some 7, .mv (.t 6), none, []⟩,
⟨some 8, .faddr 8 1 (.t 1), some (7, false), []⟩,
⟨some 9, .load 1 false (.t 8), some (7, false), []⟩,
⟨some 10, .len .slice (.t 9), some (7, false), []⟩,
⟨some 11, .faddr 9 1 (.t 1), some (7, false), []⟩,
⟨some 12, .load 1 false (.t 11), some (7, false), []⟩,
⟨some 13, .len .slice (.t 12), some (7, false), []⟩,
⟨some 14, .bin .neq (.t 10) (.t 13), some (7, false), []⟩,
⟨some 15, .pick (.t 7) (.c (.d (.bool true))) (.t 14), none, []⟩,
⟨some 16, .mv (.t 15), none, []⟩,
⟨some 17, .faddr 8 1 (.t 1), some (16, false), []⟩,
⟨some 18, .load 1 false (.t 17), some (16, false), []⟩,
⟨some 19, .len .slice (.t 18), some (16, false), []⟩,
⟨some 20, .bin .gtr (.t 19) (.c (.d (.int .i64 16))), some (16, false), []⟩,
⟨some 21, .pick (.t 16) (.c (.d (.bool true))) (.t 20), none, []⟩]
def f17.r2 : List IOper := [
⟨some 2, .mv (.c (.d (.bool false))), none, []⟩]
def f17.r3 : List IOper := [
⟨some 3, .mv (.c (.d (.int .i64 0))), none, []⟩]
def f17.r4 : List IOper := [
⟨some 22, .mv (.t 3), none, []⟩,
⟨some 23, .faddr 8 1 (.t 1), none, []⟩,
⟨some 24, .load 1 false (.t 23), none, []⟩,
⟨some 25, .len .slice (.t 24), none, []⟩,
⟨some 26, .bin .lss (.t 22) (.t 25), none, []⟩]
def f17.r5 : List IOper := [
⟨some 29, .faddr 8 1 (.t 1), none, []⟩,
⟨some 30, .load 1 false (.t 29), none, []⟩,
⟨some 31, .mv (.t 3), none, []⟩,
⟨some 32, .iaddr 3 (.t 30) (.t 31), none, []⟩,
⟨some 33, .load 3 true (.t 32), none, []⟩,
⟨some 34, .call 33 [(.t 33)], none, []⟩,
⟨some 35, .un .not (.t 34), none, []⟩,
⟨some 36, .mv (.t 35), none, []⟩,
⟨some 37, .faddr 9 1 (.t 1), some (36, false), []⟩,
⟨some 38, .load 1 false (.t 37), some (36, false), []⟩,
⟨some 39, .mv (.t 3), some (36, false), []⟩,
⟨some 40, .iaddr 3 (.t 38) (.t 39), some (36, false), []⟩,
⟨some 41, .load 3 true (.t 40), some (36, false), []⟩,
⟨some 42, .call 33 [(.t 41)], some (36, false), []⟩,
⟨some 43, .un .not (.t 42), some (36, false), []⟩,
⟨some 44, .pick (.t 36) (.c (.d (.bool true))) (.t 43), none, []⟩,
⟨some 45, .mv (.t 44), none, []⟩,
⟨some 46, .faddr 9 1 (.t 1), some (45, false), []⟩,
⟨some 47, .load 1 false (.t 46), some (45, false), []⟩,
⟨some 48, .mv (.t 3), some (45, false), []⟩,
⟨some 49, .iaddr 3 (.t 47) (.t 48), some (45, false), []⟩,
⟨some 50, .faddr 1 2 (.t 49), some (45, false), []⟩,
⟨some 51, .faddr 0 1 (.t 50), some (45, false), []⟩,
⟨some 52, .load 1 false (.t 51), some (45, false), []⟩,
⟨some 53, .bin .neq (.t 52) (.c (.d (.str []))), some (45, false), []⟩,
⟨some 54, .pick (.t 45) (.c (.d (.bool true))) (.t 53), none, []⟩]
def f17.r6 : List IOper := [
⟨some 2, .mv (.c (.d (.bool false))), none, []⟩]
def f17.r7 : List IOper := [
⟨some 27, .mv (.t 3), none, []⟩,
⟨some 28, .bin .add (.t 27) (.c (.d (.int .i64 1))), none, []⟩,
⟨some 3, .mv (.t 28), none, []⟩]
def f17.l8 : IR := (.seq (.seq (.region f17.r4) (.cond (.t 26) .skip (.exit 0))) (.seq (.block 1 (.seq (.region f17.r5) (.cond (.t 54) (.seq (.region f17.r6) .ret) .skip))) (.region f17.r7)))
def f17.r9 : List IOper := [
⟨some 55, .faddr 10 3 (.t 1), none, []⟩,
⟨some 56, .load 3 true (.t 55), none, []⟩,
⟨some 57, .call 33 [(.t 56)], none, []⟩,
⟨some 58, .mv (.t 57), none, []⟩,
⟨some 59, .faddr 13 3 (.t 1), some (58, true), []⟩,
⟨some 60, .load 3 true (.t 59), some (58, true), []⟩,
⟨some 61, .call 33 [(.t 60)], some (58, true), []⟩,
⟨some 62, .pick (.t 58) (.t 61) (.c (.d (.bool false))), none, []⟩,
⟨some 63, .mv (.t 62), none, []⟩,
⟨some 64, .faddr 13 3 (.t 1), some (63, true), []⟩,
⟨some 65, .faddr 1 2 (.t 64), some (63, true), []⟩,
⟨some 66, .faddr 0 1 (.t 65), some (63, true), []⟩,
⟨some 67, .load 1 false (.t 66), some (63, true), []⟩,
⟨some 68, .bin .eql (.t 67) (.c (.d (.str []))), some (63, true), []⟩,
⟨some 69, .pick (.t 63) (.t 68) (.c (.d (.bool false))), none, []⟩,
⟨some 2, .mv (.t 69), none, []⟩]
def f17 : IFn := ⟨1, 70, [.t 2], (.seq (.region f17.r0) (.seq (.seq (.region f17.r1) (.cond (.t 21) (.seq (.region f17.r2) .ret) .skip)) (.seq (.seq (.region f17.r3) (.block 0 (.loop f17.l8))) (.seq (.region f17.r9) .ret))))⟩
def f18.r0 : List IOper := [
⟨some 1, .box 18 (.t 0), none, []⟩,
⟨some 2, .mv (.c (.d (.bool false))), none, []⟩]
def f18.r1 : List IOper := [
⟨some 3, .load 18 true (.t 1), none, []⟩,
⟨some 4, .call 16 [(.t 3)], none, []⟩,
⟨some 5, .mv (.t 4), none, []⟩,
⟨some 6, .faddr 8 1 (.t 1), some (5, true), []⟩,
⟨some 7, .load 1 false (.t 6), some (5, true), []⟩,
⟨some 8, .call 53 [(.t 7), (.f 55)], some (5, true), []⟩,
⟨some 9, .un .not (.t 8), some (5, true), []⟩,
⟨some 10, .pick (.t 5) (.t 9) (.c (.d (.bool false))), none, []⟩,
⟨some 2, .mv (.t 10), none, []⟩]
def f18 : IFn := ⟨1, 11, [.t 2], (.seq (.region f18.r0) (.seq (.region f18.r1) .ret))⟩
def f19.r0 : List IOper := [
⟨some 1, .box 18 (.t 0), none, []⟩,
⟨some 2, .mv (.c (.d (.bool false))), none, []⟩]
def f19.r1 : List IOper := [
⟨some 3, .mv (.c (.d (.int .i64 0))), none, []⟩]
def f19.r2 : List IOper := [
⟨some 4, .mv (.t 3), none, []⟩,
⟨some 5, .faddr 8 1 (.t 1), none, []⟩,
⟨some 6, .load 1 false (.t 5), none, []⟩,
⟨some 7, .len .slice (.t 6), none, []⟩,
⟨some 8, .bin .lss (.t 4) (.t 7), none, []⟩]
def f19.r3 : List IOper := [
⟨some 11, .faddr 8 1 (.t 1), none, []⟩,
⟨some 12, .load 1 false (.t 11), none, []⟩,
⟨some 13, .mv (.t 3), none, []⟩,
⟨some 14, .iaddr 3 (.t 12) (.t 13), none, []⟩,
⟨some 15, .faddr 1 2 (.t 14), none, []⟩,
⟨some 16, .faddr 0 1 (.t 15), none, []⟩,
⟨some 17, .load 1 false (.t 16), none, []⟩,
⟨some 18, .bin .neq (.t 17) (.c (.d (.str []))), none, []⟩]
def f19.r4 : List IOper := [
⟨some 2, .mv (.c (.d (.bool false))), none, []⟩]
def f19.r5 : List IOper := [
⟨some 9, .mv (.t 3), none, []⟩,
⟨some 10, .bin .add (.t 9) (.c (.d (.int .i64 1))), none, []⟩,
⟨some 3, .mv (.t 10), none, []⟩]
def f19.l6 : IR := (.seq (.seq (.region f19.r2) (.cond (.t 8) .skip (.exit 0))) (.seq (.block 1 (.seq (.region f19.r3) (.cond (.t 18) (.seq (.region f19.r4) .ret) .skip))) (.region f19.r5)))
def f19.r7 : List IOper := [
⟨some 19, .load 18 true (.t 1), none, []⟩,
⟨some 20, .call 17 [(.t 19)], none, []⟩,
⟨some 2, .mv (.t 20), none, []⟩]
def f19 : IFn := ⟨1, 21, [.t 2], (.seq (.region f19.r0) (.seq (.seq (.region f19.r1) (.block 0 (.loop f19.l6))) (.seq (.region f19.r7) .ret)))⟩
def f20.r0 : List IOper := [
⟨some 2, .box 2 (.t 0), none, []⟩,
⟨some 3, .box 2 (.t 1), none, []⟩,
⟨some 4, .mv (.c (.d (.bool false))), none, []⟩]
def f20.r1 : List IOper := [
⟨some 6, .faddr 0 1 (.t 2), none, []⟩,
⟨some 7, .load 1 false (.t 6), none, []⟩,
⟨some 8, .faddr 0 1 (.t 3), none, []⟩,
⟨some 9, .load 1 false (.t 8), none, []⟩,
⟨some 10, .bin .neq (.t 7) (.t 9), none, []⟩,
⟨some 11, .mv (.t 10), none, []⟩,
⟨some 12, .faddr 1 1 (.t 2), some (11, false), []⟩,
⟨some 13, .load 1 false (.t 12), some (11, false), []⟩,
⟨some 14, .len .slice (.t 13), some (11, false), []⟩,
⟨some 15, .faddr 1 1 (.t 3), some (11, false), []⟩,
⟨some 16, .load 1 false (.t 15), some (11, false), []⟩,
⟨some 17, .len .slice (.t 16), some (11, false), []⟩,
⟨some 18, .bin .neq (.t 14) (.t 17), some (11, false), []⟩,
⟨some 19, .pick (.t 11) (.c (.d (.bool true))) (.t 18), none, []⟩]
def f20.r2 : List IOper := [
⟨some 4, .mv (.c (.d (.bool false))), none, []⟩]
def f20.r3 : List IOper := [
⟨some 5, .mv (.c (.d (.int .i64 0))), none, []⟩]
def f20.r4 : List IOper := [
⟨some 20, .mv (.t 5), none, []⟩,
⟨some 21, .faddr 1 1 (.t 2), none, []⟩,
⟨some 22, .load 1 false (.t 21), none, []⟩,
⟨some 23, .len .slice (.t 22), none, []⟩,
⟨some 24, .bin .lss (.t 20) (.t 23), none, []⟩]
def f20.r5 : List IOper := [
⟨some 27, .faddr 1 1 (.t 2), none, []⟩,
⟨some 28, .load 1 false (.t 27), none, [0]⟩,
⟨some 29, .mv (.t 5), none, []⟩,
⟨some 30, .iaddr 2 (.t 28) (.t 29), none, [1, 2]⟩,
⟨some 31, .load 2 true (.t 30), none, [3]⟩,
⟨some 32, .faddr 1 1 (.t 3), none, []⟩,
⟨some 33, .load 1 false (.t 32), none, [5]⟩,
⟨some 34, .mv (.t 5), none, []⟩,
⟨some 35, .iaddr 2 (.t 33) (.t 34), none, [6, 7]⟩,
⟨some 36, .load 2 true (.t 35), none, [8]⟩,
⟨some 37, .call 56 [(.t 31), (.t 36)], none, [4, 9]⟩,
⟨some 38, .un .not (.t 37), none, [10]⟩]
def f20.r6 : List IOper := [
⟨some 4, .mv (.c (.d (.bool false))), none, []⟩]
def f20.r7 : List IOper := [
⟨some 25, .mv (.t 5), none, []⟩,
⟨some 26, .bin .add (.t 25) (.c (.d (.int .i64 1))), none, []⟩,
⟨some 5, .mv (.t 26), none, []⟩]
def f20.l8 : IR := (.seq (.seq (.region f20.r4) (.cond (.t 24) .skip (.exit 0))) (.seq (.block 1 (.seq (.draw f20.r5) (.cond (.t 38) (.seq (.region f20.r6) .ret) .skip))) (.region f20.r7)))
def f20.r9 : List IOper := [
⟨some 4, .mv (.c (.d (.bool true))), none, []⟩]
def f20 : IFn := ⟨2, 39, [.t 4], (.seq (.region f20.r0) (.seq (.seq (.region f20.r1) (.cond (.t 19) (.seq (.region f20.r2) .ret) .skip)) (.seq (.seq (.region f20.r3) (.block 0 (.loop f20.l8))) (.seq (.region f20.r9) .ret))))⟩
def f21.r0 : List IOper := [
⟨some 4, .mv (.c (.d (.bool false))), none, []⟩]
def f21.r1 : List IOper := [
⟨some 6, .mv (.t 0), none, []⟩,
⟨some 7, .len .slice (.t 6), none, []⟩,
⟨some 8, .mv (.t 1), none, []⟩,
⟨some 9, .len .slice (.t 8), none, []⟩,
⟨some 10, .bin .neq (.t 7) (.t 9), none, []⟩]
def f21.r2 : List IOper := [
⟨some 4, .mv (.c (.d (.bool false))), none, []⟩]
def f21.r3 : List IOper := [
⟨some 5, .mv (.c (.d (.int .i64 0))), none, []⟩]
def f21.r4 : List IOper := [
⟨some 11, .mv (.t 5), none, []⟩,
⟨some 12, .mv (.t 0), none, []⟩,
⟨some 13, .len .slice (.t 12), none, []⟩,
⟨some 14, .bin .lss (.t 11) (.t 13), none, []⟩]
def f21.r5 : List IOper := [
⟨some 17, .mv (.t 0), none, []⟩,
⟨some 18, .mv (.t 5), none, []⟩,
⟨some 19, .iaddr 1 (.t 17) (.t 18), none, [0, 1]⟩,
⟨some 20, .load 1 false (.t 19), none, [2]⟩,
⟨some 21, .mv (.t 1), none, []⟩,
⟨some 22, .mv (.t 5), none, []⟩,
⟨some 23, .iaddr 1 (.t 21) (.t 22), none, [4, 5]⟩,
⟨some 24, .load 1 false (.t 23), none, [6]⟩,
⟨some 25, .eq true .bool (.t 20) (.t 24), none, [3, 7]⟩]
def f21.r6 : List IOper := [
⟨some 4, .mv (.c (.d (.bool false))), none, []⟩]
def f21.r7 : List IOper := [
⟨some 15, .mv (.t 5), none, []⟩,
⟨some 16, .bin .add (.t 15) (.c (.d (.int .i64 1))), none, []⟩,
⟨some 5, .mv (.t 16), none, []⟩]
def f21.l8 : IR := (.seq (.seq (.region f21.r4) (.cond (.t 14) .skip (.exit 0))) (.seq (.block 1 (.seq (.draw f21.r5) (.cond (.t 25) (.seq (.region f21.r6) .ret) .skip))) (.region f21.r7)))
def f21.r9 : List IOper := [
⟨some 4, .mv (.c (.d (.bool true))), none, []⟩]
def f21 : IFn := ⟨2, 26, [.t 4], (.seq (.region f21.r0) (.seq (.seq (.region f21.r1) (.cond (.t 10) (.seq (.region f21.r2) .ret) .skip)) (.seq (.seq (.region f21.r3) (.block 0 (.loop f21.l8))) (.seq (.region f21.r9) .ret))))⟩
def f22.r0 : List IOper := [
⟨some 1, .box 2 (.t 0), none, []⟩,
⟨some 2, .mv (.c (.d (.bool false))), none, []⟩]
def f22.r1 : List IOper := [
⟨some 3, .mv (.c (.d (.int .i64 0))), none, []⟩]
def f22.r2 : List IOper := [
⟨some 4, .mv (.t 3), none, []⟩,
⟨some 5, .faddr 1 1 (.t 1), none, []⟩,
⟨some 6, .load 1 false (.t 5), none, []⟩,
⟨some 7, .len .slice (.t 6), none, []⟩,
⟨some 8, .bin .lss (.t 4) (.t 7), none, []⟩]
def f22.r3 : List IOper := [
⟨some 11, .faddr 1 1 (.t 1), none, []⟩,
⟨some 12, .load 1 false (.t 11), none, []⟩,
⟨some 13, .mv (.t 3), none, []⟩,
⟨some 14, .iaddr 2 (.t 12) (.t 13), none, []⟩,
⟨some 15, .load 2 true (.t 14), none, []⟩,
⟨some 16, .call 57 [(.t 15)], none, []⟩,
⟨some 17, .un .not (.t 16), none, []⟩]
def f22.r4 : List IOper := [
⟨some 2, .mv (.c (.d (.bool false))), none, []⟩]
def f22.r5 : List IOper := [
⟨some 9, .mv (.t 3), none, []⟩,
⟨some 10, .bin .add (.t 9) (.c (.d (.int .i64 1))), none, []⟩,
⟨some 3, .mv (.t 10), none, []⟩]
def f22.l6 : IR := (.seq (.seq (.region f22.r2) (.cond (.t 8) .skip (.exit 0))) (.seq (.block 1 (.seq (.region f22.r3) (.cond (.t 17) (.seq (.region f22.r4) .ret) .skip))) (.region f22.r5)))
def f22.r7 : List IOper := [
⟨some 18, .faddr 1 1 (.t 1), none, []⟩,
⟨some 19, .load 1 false (.t 18), none, []⟩,
⟨some 20, .len .slice (.t 19), none, []⟩,
⟨some 21, .bin .leq (.t 20) (.c (.d (.int .i64 8))), none, []⟩,
⟨some 22, .mv (.t 21), none, []⟩,
⟨some 23, .faddr 0 1 (.t 1), some (22, true), []⟩,
⟨some 24, .load 1 false (.t 23), some (22, true), []⟩,
⟨some 25, .len .str (.t 24), some (22, true), []⟩,
⟨some 26, .bin .leq (.t 25) (.c (.d (.int .i64 35))), some (22, true), []⟩,
⟨some 27, .pick (.t 22) (.t 26) (.c (.d (.bool false))), none, []⟩,
⟨some 2, .mv (.t 27), none, []⟩]
def f22 : IFn := ⟨1, 28, [.t 2], (.seq (.region f22.r0) (.seq (.seq (.region f22.r1) (.block 0 (.loop f22.l6))) (.seq (.region f22.r7) .ret)))⟩
def f32.r0 : List IOper := [
⟨some 1, .box 3 (.t 0), none, []⟩,
⟨some 2, .mv (.c (.d (.bool false))), none, []⟩]
def f32.r1 : List IOper := [
⟨some 3, .faddr 0 1 (.t 1), none, []⟩,
⟨some 4, .load 1 false (.t 3), none, []⟩,
⟨some 5, .len .str (.t 4), none, []⟩,
⟨some 6, .bin .leq (.t 5) (.c (.d (.int .i64 35))), none, []⟩,
⟨some 7, .mv (.t 6), none, []⟩,
⟨some 8, .faddr 1 2 (.t 1), some (7, true), []⟩,
⟨some 9, .load 2 true (.t 8), some (7, true), []⟩,
⟨some 10, .call 22 [(.t 9)], some (7, true), []⟩,
⟨some 11, .pick (.t 7) (.t 10) (.c (.d (.bool false))), none, []⟩,
⟨some 2, .mv (.t 11), none, []⟩]
def f32 : IFn := ⟨1, 12, [.t 2], (.seq (.region f32.r0) (.seq (.region f32.r1) .ret))⟩
def f33.r0 : List IOper := [
⟨some 1, .box 3 (.t 0), none, []⟩,
⟨some 2, .mv (.c (.d (.bool false))), none, []⟩]
def f33.r1 : List IOper := [
⟨some 3, .faddr 0 1 (.t 1), none, []⟩,
⟨some 4, .load 1 false (.t 3), none, []⟩,
⟨some 5, .call 79 [(.t 4)], none, []⟩,
⟨some 6, .mv (.t 5), none, []⟩,
⟨some 7, .faddr 1 2 (.t 1), some (6, true), []⟩,
⟨some 8, .load 2 true (.t 7), some (6, true), []⟩,
⟨some 9, .call 63 [(.t 8)], some (6, true), []⟩,
⟨some 10, .pick (.t 6) (.t 9) (.c (.d (.bool false))), none, []⟩,
⟨some 2, .mv (.t 10), none, []⟩]
def f33 : IFn := ⟨1, 11, [.t 2], (.seq (.region f33.r0) (.seq (.region f33.r1) .ret))⟩
def f50.r0 : List IOper := [
⟨some 2, .box 2 (.t 0), none, []⟩,
⟨some 4, .alloc [.d (.str []), .nils], none, []⟩,
⟨some 5, .alloc [.d (.str []), .nils], none, []⟩,
⟨some 6, .mv (.c (.d (.int .i64 0))), none, []⟩]
def f50.r1 : List IOper := [
⟨some 9, .load 2 true (.t 2), none, []⟩,
⟨some 10, .call 59 [(.t 9)], none, []⟩,
⟨some 11, .un .not (.t 10), none, []⟩,
⟨some 8, .mv (.t 11), none, []⟩]
def f50.r2 : List IOper := [
⟨some 12, .build [.d (.str []), .nils] [], none, []⟩,
⟨some 13, .build [.d (.str []), .nils] [], none, []⟩,
⟨none, .store 2 (.t 4) (.t 12), none, []⟩,
⟨none, .store 2 (.t 5) (.t 13), none, []⟩,
⟨some 6, .mv (.c (.d (.int .i64 1))), none, []⟩]
def f50.r3 : List IOper := [
⟨some 15, .mv (.t 1), none, []⟩,
⟨some 16, .bin .lss (.t 15) (.c (.d (.int .i64 0))), none, []⟩,
⟨some 14, .mv (.t 16), none, []⟩]
def f50.r4 : List IOper := [
⟨some 17, .build [.d (.str []), .nils] [], none, []⟩,
⟨some 18, .build [.d (.str []), .nils] [], none, []⟩,
⟨none, .store 2 (.t 4) (.t 17), none, []⟩,
⟨none, .store 2 (.t 5) (.t 18), none, []⟩,
⟨some 6, .mv (.c (.d (.int .i64 2))), none, []⟩]
def f50.r5 : List IOper := [
⟨some 20, .mv (.t 1), none, []⟩,
⟨some 21, .faddr 1 1 (.t 2), none, []⟩,
⟨some 22, .load 1 false (.t 21), none, []⟩,
⟨some 23, .len .slice (.t 22), none, []⟩,
⟨some 24, .bin .gtr (.t 20) (.t 23), none, []⟩,
⟨some 19, .mv (.t 24), none, []⟩]
def f50.r6 : List IOper := [
⟨some 25, .build [.d (.str []), .nils] [], none, []⟩,
⟨some 26, .build [.d (.str []), .nils] [], none, []⟩,
⟨none, .store 2 (.t 4) (.t 25), none, []⟩,
⟨none, .store 2 (.t 5) (.t 26), none, []⟩,
⟨some 6, .mv (.c (.d (.int .i64 13))), none, []⟩]
def f50.r7 : List IOper := [
⟨some 27, .faddr 1 1 (.t 2), none, []⟩,
⟨some 28, .load 1 false (.t 27), none, []⟩,
⟨some 29, .len .slice (.t 28), none, []⟩,
⟨some 30, .mv (.t 1), none, []⟩,
⟨some 31, .bin .sub (.t 29) (.t 30), none, []⟩,
⟨some 7, .mv (.t 31), none, []⟩]
def f50.r8 : List IOper := [
⟨some 32, .faddr 0 1 (.t 2), none, []⟩,
⟨some 33, .load 1 false (.t 32), none, [0]⟩,
⟨some 34, .faddr 1 1 (.t 2), none, []⟩,
⟨some 35, .load 1 false (.t 34), none, [2]⟩,
⟨some 36, .mv (.t 7), none, []⟩,
⟨some 37, .lslice 2 (.t 35) none (some (.t 36)), none, [3, 4]⟩,
⟨some 38, .call 110 [(.t 37)], none, [5]⟩,
⟨some 39, .build [.d (.str []), .nils] [(0, 1, (.t 33)), (1, 1, (.t 38))], none, [1, 6]⟩,
⟨some 40, .faddr 1 1 (.t 2), none, []⟩,
⟨some 41, .load 1 false (.t 40), none, [8]⟩,
⟨some 42, .mv (.t 7), none, []⟩,
⟨some 43, .lslice 2 (.t 41) (some (.t 42)) none, none, [9, 10]⟩,
⟨some 44, .call 110 [(.t 43)], none, [11, 6]⟩,
⟨some 45, .build [.d (.str []), .nils] [(1, 1, (.t 44))], none, [12]⟩,
⟨none, .store 2 (.t 4) (.t 39), none, [7, 12, 0, 1, 2, 3, 4, 5, 6, 7]⟩,
⟨none, .store 2 (.t 5) (.t 45), none, [13, 14, 0, 1, 2, 3, 4, 5, 6, 7, 8, 9, 10, 11, 12, 13, 14]⟩,
⟨some 6, .mv (.c (.d (.int .i64 0))), none, [15, 0, 1, 2, 3, 4, 5, 6, 7, 8, 9, 10, 11, 12, 13, 14, 15]⟩]
def f50 : IFn := ⟨2, 46, [.cell 4 2 true, .cell 5 2 true, .t 6], (.seq (.region f50.r0) (.seq (.block 0 (.seq (.region f50.r1) (.cond (.t 8) (.seq (.region f50.r2) .ret) (.seq (.region f50.r3) (.cond (.t 14) (.seq (.region f50.r4) .ret) (.seq (.region f50.r5) (.cond (.t 19) (.seq (.region f50.r6) .ret) .skip))))))) (.seq (.region f50.r7) (.seq (.draw f50.r8) .ret))))⟩
def f51.r0 : List IOper := [
⟨some 1, .box 3 (.t 0), none, []⟩,
⟨some 2, .mv (.c (.d (.bool false))), none, []⟩]
def f51.r1 : List IOper := [
⟨some 3, .faddr 0 1 (.t 1), none, []⟩,
⟨some 4, .load 1 false (.t 3), none, []⟩,
⟨some 5, .bin .eql (.t 4) (.c (.d (.str [105, 110, 116]))), none, []⟩,
⟨some 6, .mv (.t 5), none, []⟩,
⟨some 7, .faddr 0 1 (.t 1), some (6, false), []⟩,
⟨some 8, .load 1 false (.t 7), some (6, false), []⟩,
⟨some 9, .bin .eql (.t 8) (.c (.d (.str [98, 111, 111, 108]))), some (6, false), []⟩,
⟨some 10, .pick (.t 6) (.c (.d (.bool true))) (.t 9), none, []⟩,
⟨some 11, .mv (.t 10), none, []⟩,
⟨some 12, .faddr 0 1 (.t 1), some (11, false), []⟩,
⟨some 13, .load 1 false (.t 12), some (11, false), []⟩,
⟨some 14, .call 111 [(.t 13)], some (11, false), []⟩,
⟨some 15, .pick (.t 11) (.c (.d (.bool true))) (.t 14), none, []⟩,
⟨some 16, .mv (.t 15), none, []⟩,
⟨some 17, .faddr 1 2 (.t 1), some (16, true), []⟩,
⟨some 18, .load 2 true (.t 17), some (16, true), []⟩,
⟨some 19, .call 59 [(.t 18)], some (16, true), []⟩,
⟨some 20, .pick (.t 16) (.t 19) (.c (.d (.bool false))), none, []⟩,
⟨some 2, .mv (.t 20), none, []⟩]
def f51 : IFn := ⟨1, 21, [.t 2], (.seq (.region f51.r0) (.seq (.region f51.r1) .ret))⟩
def f52.r0 : List IOper := [
⟨some 1, .box 3 (.t 0), none, []⟩,
⟨some 2, .mv (.c (.d (.bool false))), none, []⟩]
def f52.r1 : List IOper := [
⟨some 3, .load 3 true (.t 1), none, []⟩,
⟨some 4, .call 51 [(.t 3)], none, []⟩,
⟨some 5, .un .not (.t 4), none, []⟩,
⟨some 2, .mv (.t 5), none, []⟩]
def f52 : IFn := ⟨1, 6, [.t 2], (.seq (.region f52.r0) (.seq (.region f52.r1) .ret))⟩
def f53.r0 : List IOper := [
⟨some 4, .mv (.c (.d (.bool false))), none, []⟩]
def f53.r1 : List IOper := [
⟨some 5, .mv (.t 0), none, []⟩,
⟨some 6, .mv (.t 1), none, []⟩,
⟨some 7, .call 112 [(.t 5), (.t 6)], none, []⟩,
⟨some 8, .bin .geq (.t 7) (.c (.d (.int .i64 0))), none, []⟩,
⟨some 4, .mv (.t 8), none, []⟩]
def f53 : IFn := ⟨2, 9, [.t 4], (.seq (.region f53.r0) (.seq (.region f53.r1) .ret))⟩
def f54.r0 : List IOper := [
⟨some 2, .box 3 (.t 0), none, []⟩,
⟨some 3, .mv (.c (.d (.bool false))), none, []⟩]
def f54.r1 : List IOper := [
⟨some 4, .load 1 false (.t 1), none, []⟩,
⟨some 5, .load 3 true (.t 2), none, []⟩,
⟨some 6, .callv (.t 4) [(.t 5)], none, []⟩,
⟨some 7, .mv (.t 6), none, []⟩,
⟨some 8, .faddr 1 2 (.t 2), some (7, false), []⟩,
⟨some 9, .faddr 0 1 (.t 8), some (7, false), []⟩,
⟨some 10, .load 1 false (.t 9), some (7, false), []⟩,
⟨some 11, .bin .neq (.t 10) (.c (.d (.str []))), some (7, false), []⟩,
⟨some 12, .pick (.t 7) (.c (.d (.bool true))) (.t 11), none, []⟩,
⟨some 3, .mv (.t 12), none, []⟩]
def f54 : IFn := ⟨2, 13, [.t 3], (.seq (.region f54.r0) (.seq (.region f54.r1) .ret))⟩
def f55.r0 : List IOper := [
⟨some 1, .box 3 (.t 0), none, []⟩,
⟨some 2, .mv (.c (.d (.bool false))), none, []⟩]
def f55.r1 : List IOper := [
⟨some 3, .faddr 1 2 (.t 1), none, []⟩,
⟨some 4, .faddr 0 1 (.t 3), none, []⟩,
⟨some 5, .load 1 false (.t 4), none, []⟩,
⟨some 6, .bin .neq (.t 5) (.c (.d (.str []))), none, []⟩,
⟨some 2, .mv (.t 6), none, []⟩]
def f55 : IFn := ⟨1, 7, [.t 2], (.seq (.region f55.r0) (.seq (.region f55.r1) .ret))⟩
def f56.r0 : List IOper := [
⟨some 2, .box 2 (.t 0), none, []⟩,
⟨some 3, .box 2 (.t 1), none, []⟩,
⟨some 4, .mv (.c (.d (.bool false))), none, []⟩]
def f56.r1 : List IOper := [
⟨some 5, .load 2 true (.t 2), none, []⟩,
⟨some 6, .load 2 true (.t 3), none, []⟩,
⟨some 7, .call 113 [(.t 5), (.t 6)], none, []⟩,
⟨some 8, .bin .eql (.t 7) (.c (.d (.int .i64 0))), none, []⟩,
⟨some 4, .mv (.t 8), none, []⟩]
def f56 : IFn := ⟨2, 9, [.t 4], (.seq (.region f56.r0) (.seq (.region f56.r1) .ret))⟩
def f57.r0 : List IOper := [
⟨some 1, .box 2 (.t 0), none, []⟩,
⟨some 2, .mv (.c (.d (.bool false))), none, []⟩]
def f57.r1 : List IOper := [
⟨some 3, .mv (.c (.d (.int .i64 0))), none, []⟩]
def f57.r2 : List IOper := [
⟨some 4, .mv (.t 3), none, []⟩,
⟨some 5, .faddr 1 1 (.t 1), none, []⟩,
⟨some 6, .load 1 false (.t 5), none, []⟩,
⟨some 7, .len .slice (.t 6), none, []⟩,
⟨some 8, .bin .lss (.t 4) (.t 7), none, []⟩]
def f57.r3 : List IOper := [
⟨some 11, .faddr 1 1 (.t 1), none, []⟩,
⟨some 12, .load 1 false (.t 11), none, []⟩,
⟨some 13, .mv (.t 3), none, []⟩,
⟨some 14, .iaddr 2 (.t 12) (.t 13), none, []⟩,
⟨some 15, .faddr 0 1 (.t 14), none, []⟩,
⟨some 16, .load 1 false (.t 15), none, []⟩,
⟨some 17, .len .str (.t 16), none, []⟩,
⟨some 18, .bin .gtr (.t 17) (.c (.d (.int .i64 35))), none, []⟩]
def f57.r4 : List IOper := [
⟨some 2, .mv (.c (.d (.bool false))), none, []⟩]
def f57.r5 : List IOper := [
⟨some 9, .mv (.t 3), none, []⟩,
⟨some 10, .bin .add (.t 9) (.c (.d (.int .i64 1))), none, []⟩,
⟨some 3, .mv (.t 10), none, []⟩]
def f57.l6 : IR := (.seq (.seq (.region f57.r2) (.cond (.t 8) .skip (.exit 0))) (.seq (.block 1 (.seq (.region f57.r3) (.cond (.t 18) (.seq (.region f57.r4) .ret) .skip))) (.region f57.r5)))
def f57.r7 : List IOper := [
⟨some 19, .faddr 1 1 (.t 1), none, []⟩,
⟨some 20, .load 1 false (.t 19), none, []⟩,
⟨some 21, .len .slice (.t 20), none, []⟩,
⟨some 22, .bin .leq (.t 21) (.c (.d (.int .i64 14))), none, []⟩,
⟨some 2, .mv (.t 22), none, []⟩]
def f57 : IFn := ⟨1, 23, [.t 2], (.seq (.region f57.r0) (.seq (.seq (.region f57.r1) (.block 0 (.loop f57.l6))) (.seq (.region f57.r7) .ret)))⟩
def f59.r0 : List IOper := [
⟨some 1, .box 2 (.t 0), none, []⟩,
⟨some 2, .mv (.c (.d (.bool false))), none, []⟩]
def f59.r1 : List IOper := [
⟨some 3, .faddr 0 1 (.t 1), none, []⟩,
⟨some 4, .load 1 false (.t 3), none, []⟩,
⟨some 5, .bin .eql (.t 4) (.c (.d (.str []))), none, []⟩,
⟨some 6, .mv (.t 5), none, []⟩,
⟨some 7, .faddr 0 1 (.t 1), some (6, false), []⟩,
⟨some 8, .load 1 false (.t 7), some (6, false), []⟩,
⟨some 9, .call 115 [(.t 8)], some (6, false), []⟩,
⟨some 10, .pick (.t 6) (.c (.d (.bool true))) (.t 9), none, []⟩,
⟨some 11, .mv (.t 10), none, []⟩,
⟨some 12, .faddr 1 1 (.t 1), some (11, true), []⟩,
⟨some 13, .load 1 false (.t 12), some (11, true), []⟩,
⟨some 14, .len .slice (.t 13), some (11, true), []⟩,
⟨some 15, .bin .leq (.t 14) (.c (.d (.int .i64 6))), some (11, true), []⟩,
⟨some 16, .pick (.t 11) (.t 15) (.c (.d (.bool false))), none, []⟩,
⟨some 17, .mv (.t 16), none, []⟩,
⟨some 18, .faddr 1 1 (.t 1), some (17, true), []⟩,
⟨some 19, .load 1 false (.t 18), some (17, true), []⟩,
⟨some 20, .call 116 [(.t 19), (.f 117)], some (17, true), []⟩,
⟨some 21, .un .not (.t 20), some (17, true), []⟩,
⟨some 22, .pick (.t 17) (.t 21) (.c (.d (.bool false))), none, []⟩,
⟨some 2, .mv (.t 22), none, []⟩]
def f59 : IFn := ⟨1, 23, [.t 2], (.seq (.region f59.r0) (.seq (.region f59.r1) .ret))⟩
def f63.r0 : List IOper := [
⟨some 1, .box 2 (.t 0), none, []⟩,
⟨some 2, .mv (.c (.d (.bool false))), none, []⟩]
def f63.r1 : List IOper := [
⟨some 3, .mv (.c (.d (.int .i64 0))), none, []⟩]
def f63.r2 : List IOper := [
⟨some 4, .mv (.t 3), none, []⟩,
⟨some 5, .faddr 1 1 (.t 1), none, []⟩,
⟨some 6, .load 1 false (.t 5), none, []⟩,
⟨some 7, .len .slice (.t 6), none, []⟩,
⟨some 8, .bin .lss (.t 4) (.t 7), none, []⟩]
def f63.r3 : List IOper := [
⟨some 11, .faddr 1 1 (.t 1), none, []⟩,
⟨some 12, .load 1 false (.t 11), none, []⟩,
⟨some 13, .mv (.t 3), none, []⟩,
⟨some 14, .iaddr 2 (.t 12) (.t 13), none, []⟩,
⟨some 15, .load 2 true (.t 14), none, []⟩,
⟨some 16, .call 97 [(.t 15)], none, []⟩,
⟨some 17, .un .not (.t 16), none, []⟩]
def f63.r4 : List IOper := [
⟨some 2, .mv (.c (.d (.bool false))), none, []⟩]
def f63.r5 : List IOper := [
⟨some 9, .mv (.t 3), none, []⟩,
⟨some 10, .bin .add (.t 9) (.c (.d (.int .i64 1))), none, []⟩,
⟨some 3, .mv (.t 10), none, []⟩]
def f63.l6 : IR := (.seq (.seq (.region f63.r2) (.cond (.t 8) .skip (.exit 0))) (.seq (.block 1 (.seq (.region f63.r3) (.cond (.t 17) (.seq (.region f63.r4) .ret) .skip))) (.region f63.r5)))
def f63.r7 : List IOper := [
⟨some 18, .faddr 1 1 (.t 1), none, []⟩,
⟨some 19, .load 1 false (.t 18), none, []⟩,
⟨some 20, .len .slice (.t 19), none, []⟩,
⟨some 21, .bin .leq (.t 20) (.c (.d (.int .i64 6))), none, []⟩,
⟨some 22, .mv (.t 21), none, []⟩,
⟨some 23, .faddr 0 1 (.t 1), some (22, true), []⟩,
⟨some 24, .load 1 false (.t 23), some (22, true), []⟩,
⟨some 25, .bin .eql (.t 24) (.c (.d (.str []))), some (22, true), []⟩,
⟨some 26, .mv (.t 25), some (22, true), []⟩,
⟨some 27, .faddr 0 1 (.t 1), some (26, false), []⟩,
⟨some 28, .load 1 false (.t 27), some (26, false), []⟩,
⟨some 29, .call 120 [(.t 28)], some (26, false), []⟩,
⟨some 30, .pick (.t 26) (.c (.d (.bool true))) (.t 29), some (22, true), []⟩,
⟨some 31, .pick (.t 22) (.t 30) (.c (.d (.bool false))), none, []⟩,
⟨some 2, .mv (.t 31), none, []⟩]
def f63 : IFn := ⟨1, 32, [.t 2], (.seq (.region f63.r0) (.seq (.seq (.region f63.r1) (.block 0 (.loop f63.l6))) (.seq (.region f63.r7) .ret)))⟩
def f65.r0 : List IOper := [
⟨some 2, .box 3 (.t 0), none, []⟩,
⟨some 3, .box 3 (.t 1), none, []⟩,
⟨some 4, .mv (.c (.d (.bool false))), none, []⟩]
def f65.r1 : List IOper := [
⟨some 5, .faddr 0 1 (.t 2), none, []⟩,
⟨some 6, .load 1 false (.t 5), none, []⟩,
⟨some 7, .faddr 0 1 (.t 3), none, []⟩,
⟨some 8, .load 1 false (.t 7), none, []⟩,
⟨some 9, .bin .eql (.t 6) (.t 8), none, []⟩,
⟨some 10, .mv (.t 9), none, []⟩,
⟨some 11, .faddr 1 2 (.t 2), some (10, true), []⟩,
⟨some 12, .load 2 true (.t 11), some (10, true), []⟩,
⟨some 13, .faddr 1 2 (.t 3), some (10, true), []⟩,
⟨some 14, .load 2 true (.t 13), some (10, true), []⟩,
⟨some 15, .call 20 [(.t 12), (.t 14)], some (10, true), []⟩,
⟨some 16, .pick (.t 10) (.t 15) (.c (.d (.bool false))), none, []⟩,
⟨some 4, .mv (.t 16), none, []⟩]
def f65 : IFn := ⟨2, 17, [.t 4], (.seq (.region f65.r0) (.seq (.region f65.r1) .ret))⟩
def f68.r0 : List IOper := [
⟨some 2, .box 3 (.t 0), none, []⟩,
⟨some 3, .box 3 (.t 1), none, []⟩,
⟨some 4, .mv (.c (.d (.bool false))), none, []⟩]
def f68.r1 : List IOper := [
⟨some 5, .faddr 0 1 (.t 2), none, []⟩,
⟨some 6, .load 1 false (.t 5), none, []⟩,
⟨some 7, .faddr 0 1 (.t 3), none, []⟩,
⟨some 8, .load 1 false (.t 7), none, []⟩,
⟨some 9, .bin .eql (.t 6) (.t 8), none, []⟩,
⟨some 10, .mv (.t 9), none, []⟩,
⟨some 11, .faddr 1 2 (.t 2), some (10, true), []⟩,
⟨some 12, .load 2 true (.t 11), some (10, true), []⟩,
⟨some 13, .faddr 1 2 (.t 3), some (10, true), []⟩,
⟨some 14, .load 2 true (.t 13), some (10, true), []⟩,
⟨some 15, .call 123 [(.t 12), (.t 14)], some (10, true), []⟩,
⟨some 16, .pick (.t 10) (.t 15) (.c (.d (.bool false))), none, []⟩,
⟨some 4, .mv (.t 16), none, []⟩]
def f68 : IFn := ⟨2, 17, [.t 4], (.seq (.region f68.r0) (.seq (.region f68.r1) .ret))⟩
def f79.r0 : List IOper := [
⟨some 2, .mv (.c (.d (.bool false))), none, []⟩]
def f79.r1 : List IOper := [
⟨some 3, .mv (.t 0), none, []⟩,
⟨some 4, .bin .eql (.t 3) (.c (.d (.str [105, 110, 116]))), none, []⟩,
⟨some 5, .mv (.t 4), none, []⟩,
⟨some 6, .mv (.t 0), some (5, false), []⟩,
⟨some 7, .bin .eql (.t 6) (.c (.d (.str [98, 111, 111, 108]))), some (5, false), []⟩,
⟨some 8, .pick (.t 5) (.c (.d (.bool true))) (.t 7), none, []⟩,
⟨some 9, .mv (.t 8), none, []⟩,
⟨some 10, .mv (.t 0), some (9, false), []⟩,
⟨some 11, .call 138 [(.t 10)], some (9, false), []⟩,
⟨some 12, .pick (.t 9) (.c (.d (.bool true))) (.t 11), none, []⟩,
⟨some 2, .mv (.t 12), none, []⟩]
def f79 : IFn := ⟨1, 13, [.t 2], (.seq (.region f79.r0) (.seq (.region f79.r1) .ret))⟩
def f89.r0 : List IOper := [
⟨some 1, .box 2 (.t 0), none, []⟩,
⟨some 2, .mv (.c (.d (.bool false))), none, []⟩]
def f89.r1 : List IOper := [
⟨some 5, .faddr 1 1 (.t 1), none, []⟩,
⟨some 6, .load 1 false (.t 5), none, []⟩,
⟨some 7, .len .slice (.t 6), none, []⟩,
⟨some 8, .mv (.c (.d (.int .i64 0))), none, []⟩]
def f89.r2 : List IOper := [
⟨some 9, .bin .lss (.t 8) (.t 7), none, []⟩]
def f89.r3 : List IOper := [
⟨some 10, .mv (.t 8), none, []⟩,
⟨some 11, .iaddr 2 (.t 6) (.t 8), none, []⟩,
⟨some 12, .load 2 true (.t 11), none, []⟩,
⟨some 4, .alloc [.d (.str []), .d (.int .i64 0)], none, []⟩,
⟨some 3, .mv (.t 10), none, []⟩,
⟨none, .store 2 (.t 4) (.t 12), none, []⟩]
def f89.r4 : List IOper := [
⟨some 13, .faddr 0 1 (.t 4), none, []⟩,
⟨some 14, .load 1 false (.t 13), none, [0]⟩,
⟨some 15, .call 115 [(.t 14)], none, [1]⟩,
⟨some 16, .un .not (.t 15), none, [2]⟩,
⟨some 17, .mv (.t 16), none, [3, 2]⟩,
⟨some 18, .faddr 1 1 (.t 4), some (17, false), [4]⟩,
⟨some 19, .load 1 false (.t 18), some (17, false), [5, 4]⟩,
⟨some 20, .bin .eql (.t 19) (.c (.d (.int .i64 0))), some (17, false), [6, 4]⟩,
⟨some 21, .pick (.t 17) (.c (.d (.bool true))) (.t 20), none, [4, 7]⟩,
⟨some 22, .mv (.t 21), none, [8, 4]⟩,
⟨some 23, .faddr 1 1 (.t 4), some (22, false), [9]⟩,
⟨some 24, .load 1 false (.t 23), some (22, false), [10, 9]⟩,
⟨some 25, .call 142 [(.t 24)], some (22, false), [11, 9, 9]⟩,
⟨some 26, .un .not (.t 25), some (22, false), [12, 9]⟩,
⟨some 27, .pick (.t 22) (.c (.d (.bool true))) (.t 26), none, [9, 13]⟩,
⟨some 28, .mv (.t 27), none, [14, 12]⟩,
⟨some 29, .mv (.t 3), some (28, false), [15]⟩,
⟨some 30, .bin .gtr (.t 29) (.c (.d (.int .i64 0))), some (28, false), [16, 15]⟩,
⟨some 31, .mv (.t 30), some (28, false), [17, 15, 15]⟩,
⟨some 32, .faddr 1 1 (.t 1), some (31, true), [18]⟩,
⟨some 33, .load 1 false (.t 32), some (31, true), [19, 18]⟩,
⟨some 34, .mv (.t 3), some (31, true), [18]⟩,
⟨some 35, .bin .sub (.t 34) (.c (.d (.int .i64 1))), some (31, true), [21, 18]⟩,
⟨some 36, .iaddr 2 (.t 33) (.t 35), some (31, true), [20, 22, 18]⟩,
⟨some 37, .faddr 0 1 (.t 36), some (31, true), [23, 18]⟩,
⟨some 38, .load 1 false (.t 37), some (31, true), [24, 18]⟩,
⟨some 39, .faddr 0 1 (.t 4), some (31, true), [18]⟩,
⟨some 40, .load 1 false (.t 39), some (31, true), [26, 18]⟩,
⟨some 41, .bin .geq (.t 38) (.t 40), some (31, true), [25, 27, 18]⟩,
⟨some 42, .pick (.t 31) (.t 41) (.c (.d (.bool false))), some (28, false), [18, 28, 15]⟩,
⟨some 43, .pick (.t 28) (.c (.d (.bool true))) (.t 42), none, [15, 29]⟩]
def f89.r5 : List IOper := [
⟨some 2, .mv (.c (.d (.bool false))), none, []⟩]
def f89.r6 : List IOper := [
⟨some 44, .bin .add (.t 8) (.c (.d (.int .i64 1))), none, []⟩,
⟨some 8, .mv (.t 44), none, []⟩]
def f89.l7 : IR := (.seq (.region f89.r2) (.seq (.cond (.t 9) .skip (.exit 0)) (.seq (.block 1 (.seq (.region f89.r3) (.seq (.draw f89.r4) (.cond (.t 43) (.seq (.region f89.r5) .ret) .skip)))) (.region f89.r6))))
def f89.r8 : List IOper := [
⟨some 45, .faddr 0 1 (.t 1), none, []⟩,
⟨some 46, .load 1 false (.t 45), none, []⟩,
⟨some 47, .call 142 [(.t 46)], none, []⟩,
⟨some 48, .mv (.t 47), none, []⟩,
⟨some 49, .faddr 1 1 (.t 1), some (48, true), []⟩,
⟨some 50, .load 1 false (.t 49), some (48, true), []⟩,
⟨some 51, .len .slice (.t 50), some (48, true), []⟩,
⟨some 52, .bin .leq (.t 51) (.c (.d (.int .i64 12))), some (48, true), []⟩,
⟨some 53, .pick (.t 48) (.t 52) (.c (.d (.bool false))), none, []⟩,
⟨some 2, .mv (.t 53), none, []⟩]
def f89 : IFn := ⟨1, 54, [.t 2], (.seq (.region f89.r0) (.seq (.seq (.region f89.r1) (.block 0 (.loop f89.l7))) (.seq (.region f89.r8) .ret)))⟩
def f97.r0 : List IOper := [
⟨some 1, .box 2 (.t 0), none, []⟩,
⟨some 2, .mv (.c (.d (.bool false))), none, []⟩]
def f97.r1 : List IOper := [
⟨some 5, .faddr 0 1 (.t 1), none, []⟩,
⟨some 6, .load 1 false (.t 5), none, []⟩,
⟨some 7, .call 153 [(.t 6)], none, []⟩,
⟨some 8, .un .not (.t 7), none, []⟩,
⟨some 9, .mv (.t 8), none, []⟩,
⟨some 10, .faddr 1 1 (.t 1), some (9, false), []⟩,
⟨some 11, .load 1 false (.t 10), some (9, false), []⟩,
⟨some 12, .len .slice (.t 11), some (9, false), []⟩,
⟨some 13, .bin .gtr (.t 12) (.c (.d (.int .i64 12))), some (9, false), []⟩,
⟨some 14, .pick (.t 9) (.c (.d (.bool true))) (.t 13), none, []⟩]
def f97.r2 : List IOper := [
⟨some 2, .mv (.c (.d (.bool false))), none, []⟩]
def f97.r3 : List IOper := [
⟨some 3, .mv (.c (.d (.int .i64 0))), none, []⟩]
def f97.r4 : List IOper := [
⟨some 15, .mv (.t 3), none, []⟩,
⟨some 16, .faddr 1 1 (.t 1), none, []⟩,
⟨some 17, .load 1 false (.t 16), none, []⟩,
⟨some 18, .len .slice (.t 17), none, []⟩,
⟨some 19, .bin .lss (.t 15) (.t 18), none, []⟩]
def f97.r5 : List IOper := [
⟨some 22, .faddr 1 1 (.t 1), none, []⟩,
⟨some 23, .load 1 false (.t 22), none, []⟩,
⟨some 24, .mv (.t 3), none, []⟩,
⟨some 25, .iaddr 2 (.t 23) (.t 24), none, []⟩,
⟨some 26, .load 2 true (.t 25), none, []⟩,
⟨some 4, .alloc [.d (.str []), .d (.int .i64 0)], none, []⟩,
⟨none, .store 2 (.t 4) (.t 26), none, []⟩]
def f97.r6 : List IOper := [
⟨some 27, .faddr 0 1 (.t 4), none, []⟩,
⟨some 28, .load 1 false (.t 27), none, [0]⟩,
⟨some 29, .call 120 [(.t 28)], none, [1]⟩,
⟨some 30, .un .not (.t 29), none, [2]⟩,
⟨some 31, .mv (.t 30), none, [3, 2]⟩,
⟨some 32, .faddr 1 1 (.t 4), some (31, false), [4]⟩,
⟨some 33, .load 1 false (.t 32), some (31, false), [5, 4]⟩,
⟨some 34, .bin .eql (.t 33) (.c (.d (.int .i64 0))), some (31, false), [6, 4]⟩,
⟨some 35, .pick (.t 31) (.c (.d (.bool true))) (.t 34), none, [4, 7]⟩,
⟨some 36, .mv (.t 35), none, [8, 4]⟩,
⟨some 37, .faddr 1 1 (.t 4), some (36, false), [9]⟩,
⟨some 38, .load 1 false (.t 37), some (36, false), [10, 9]⟩,
⟨some 39, .call 153 [(.t 38)], some (36, false), [11, 9, 9]⟩,
⟨some 40, .un .not (.t 39), some (36, false), [12, 9]⟩,
⟨some 41, .pick (.t 36) (.c (.d (.bool true))) (.t 40), none, [9, 13]⟩,
⟨some 42, .mv (.t 41), none, [14, 12]⟩,
⟨some 43, .mv (.t 3), some (42, false), [15]⟩,
⟨some 44, .bin .gtr (.t 43) (.c (.d (.int .i64 0))), some (42, false), [16, 15]⟩,
⟨some 45, .mv (.t 44), some (42, false), [17, 15, 15]⟩,
⟨some 46, .faddr 1 1 (.t 1), some (45, true), [18]⟩,
⟨some 47, .load 1 false (.t 46), some (45, true), [19, 18]⟩,
⟨some 48, .mv (.t 3), some (45, true), [18]⟩,
⟨some 49, .bin .sub (.t 48) (.c (.d (.int .i64 1))), some (45, true), [21, 18]⟩,
⟨some 50, .iaddr 2 (.t 47) (.t 49), some (45, true), [20, 22, 18]⟩,
⟨some 51, .faddr 0 1 (.t 50), some (45, true), [23, 18]⟩,
⟨some 52, .load 1 false (.t 51), some (45, true), [24, 18]⟩,
⟨some 53, .faddr 0 1 (.t 4), some (45, true), [18]⟩,
⟨some 54, .load 1 false (.t 53), some (45, true), [26, 18]⟩,
⟨some 55, .bin .geq (.t 52) (.t 54), some (45, true), [25, 27, 18]⟩,
⟨some 56, .pick (.t 45) (.t 55) (.c (.d (.bool false))), some (42, false), [18, 28, 15]⟩,
⟨some 57, .pick (.t 42) (.c (.d (.bool true))) (.t 56), none, [15, 29]⟩]
def f97.r7 : List IOper := [
⟨some 2, .mv (.c (.d (.bool false))), none, []⟩]
def f97.r8 : List IOper := [
⟨some 20, .mv (.t 3), none, []⟩,
⟨some 21, .bin .add (.t 20) (.c (.d (.int .i64 1))), none, []⟩,
⟨some 3, .mv (.t 21), none, []⟩]
def f97.l9 : IR := (.seq (.seq (.region f97.r4) (.cond (.t 19) .skip (.exit 0))) (.seq (.block 1 (.seq (.region f97.r5) (.seq (.draw f97.r6) (.cond (.t 57) (.seq (.region f97.r7) .ret) .skip)))) (.region f97.r8)))
def f97.r10 : List IOper := [
⟨some 2, .mv (.c (.d (.bool true))), none, []⟩]
def f97 : IFn := ⟨1, 58, [.t 2], (.seq (.region f97.r0) (.seq (.seq (.region f97.r1) (.cond (.t 14) (.seq (.region f97.r2) .ret) .skip)) (.seq (.seq (.region f97.r3) (.block 0 (.loop f97.l9))) (.seq (.region f97.r10) .ret))))⟩
def f104.r0 : List IOper := [
⟨some 3, .mv (.t 0), none, []⟩,
⟨some 4, .len .slice (.t 3), none, []⟩,
⟨some 2, .mv (.t 4), none, []⟩]
def f104.r1 : List IOper := [
⟨some 5, .mv (.t 0), none, []⟩,
⟨some 6, .mv (.t 2), none, []⟩,
⟨some 7, .mv (.t 2), none, []⟩,
⟨some 8, .conv .u64 (.t 7), none, []⟩,
⟨some 9, .call 158 [(.t 8)], none, []⟩,
⟨some 10, .call 157 [(.t 5), (.c (.d (.int .i64 0))), (.t 6), (.t 9)], none, []⟩]
def f104 : IFn := ⟨1, 11, [], (.seq (.region f104.r0) (.region f104.r1))⟩
def f110.r0 : List IOper := [
⟨some 2, .mv (.c (.nils)), none, []⟩]
def f110.r1 : List IOper := [
⟨some 3, .mv (.c (.nils)), none, []⟩]
def f110.r2 : List IOper := [
⟨some 6, .mv (.t 0), none, []⟩,
⟨some 7, .len .slice (.t 6), none, []⟩,
⟨some 8, .mv (.c (.d (.int .i64 0))), none, []⟩]
def f110.r3 : List IOper := [
⟨some 9, .bin .lss (.t 8) (.t 7), none, []⟩]
def f110.r4 : List IOper := [
⟨some 10, .iaddr 2 (.t 6) (.t 8), none, []⟩,
⟨some 11, .load 2 true (.t 10), none, []⟩,
⟨some 5, .alloc [.d (.int .i64 0), .nils], none, []⟩,
⟨none, .store 2 (.t 5) (.t 11), none, []⟩]
def f110.r5 : List IOper := [
⟨some 12, .mv (.t 3), none, []⟩,
⟨some 13, .faddr 0 1 (.t 5), none, []⟩,
⟨some 14, .load 1 false (.t 13), none, [1]⟩,
⟨some 15, .faddr 1 1 (.t 5), none, []⟩,
⟨some 16, .load 1 false (.t 15), none, [3]⟩,
⟨some 17, .call 170 [(.t 16)], none, [4]⟩,
⟨some 18, .build [.d (.int .i64 0), .nils] [(0, 1, (.t 14)), (1, 1, (.t 17))], none, [2, 5]⟩,
⟨some 19, .mkSlice 2 1 [.d (.int .i64 0), .nils] [(0, 2, (.t 18))], none, [6]⟩,
⟨some 20, .append 2 32 (.t 12) (.t 19), none, [0, 7, 5]⟩,
⟨some 3, .mv (.t 20), none, [8, 8, 0, 1, 2, 3, 4, 5, 6, 7, 8]⟩]
def f110.r6 : List IOper := [
⟨some 21, .bin .add (.t 8) (.c (.d (.int .i64 1))), none, []⟩,
⟨some 8, .mv (.t 21), none, []⟩]
def f110.l7 : IR := (.seq (.region f110.r3) (.seq (.cond (.t 9) .skip (.exit 0)) (.seq (.block 1 (.seq (.region f110.r4) (.draw f110.r5))) (.region f110.r6))))
def f110.r8 : List IOper := [
⟨some 22, .mv (.t 3), none, []⟩,
⟨some 2, .mv (.t 22), none, []⟩]
def f110 : IFn := ⟨1, 23, [.t 2], (.seq (.region f110.r0) (.seq (.region f110.r1) (.seq (.seq (.region f110.r2) (.block 0 (.loop f110.l7))) (.seq (.region f110.r8) .ret))))⟩
def f111.r0 : List IOper := [
⟨some 2, .mv (.c (.d (.bool false))), none, []⟩]
def f111.r1 : List IOper := [
⟨some 3, .mv (.t 0), none, []⟩,
⟨some 4, .len .str (.t 3), none, []⟩,
⟨some 5, .bin .lss (.t 4) (.c (.d (.int .i64 1))), none, []⟩,
⟨some 6, .mv (.t 5), none, []⟩,
⟨some 7, .mv (.t 0), some (6, false), []⟩,
⟨some 8, .len .str (.t 7), some (6, false), []⟩,
⟨some 9, .bin .gtr (.t 8) (.c (.d (.int .i64 30))), some (6, false), []⟩,
⟨some 10, .pick (.t 6) (.c (.d (.bool true))) (.t 9), none, []⟩,
⟨some 11, .mv (.t 10), none, []⟩,
⟨some 12, .mv (.t 0), some (11, false), []⟩,
⟨some 13, .idxS (.t 12) (.c (.d (.int .i64 0))), some (11, false), []⟩,
⟨some 14, .bin .lss (.t 13) (.c (.d (.int .u8 65))), some (11, false), []⟩,
⟨some 15, .pick (.t 11) (.c (.d (.bool true))) (.t 14), none, []⟩,
⟨some 16, .mv (.t 15), none, []⟩,
⟨some 17, .mv (.t 0), some (16, false), []⟩,
⟨some 18, .idxS (.t 17) (.c (.d (.int .i64 0))), some (16, false), []⟩,
⟨some 19, .bin .gtr (.t 18) (.c (.d (.int .u8 90))), some (16, false), []⟩,
⟨some 20, .pick (.t 16) (.c (.d (.bool true))) (.t 19), none, []⟩]
def f111.r2 : List IOper := [
⟨some 2, .mv (.c (.d (.bool false))), none, []⟩]
def f111.r3 : List IOper := [
⟨some 21, .mv (.t 0), none, []⟩,
⟨some 22, .sslice (.t 21) (some (.c (.d (.int .i64 1)))) none, none, []⟩,
⟨some 23, .call 171 [(.t 22), (.c (.d (.str [48, 49, 50, 51, 52, 53, 54, 55, 56, 57])))], none, []⟩,
⟨some 24, .bin .eql (.t 23) (.c (.d (.str []))), none, []⟩,
⟨some 2, .mv (.t 24), none, []⟩]
def f111 : IFn := ⟨1, 25, [.t 2], (.seq (.region f111.r0) (.seq (.seq (.region f111.r1) (.cond (.t 20) (.seq (.region f111.r2) .ret) .skip)) (.seq (.region f111.r3) .ret)))⟩
def f112.r0 : List IOper := [
⟨some 4, .mv (.c (.d (.int .i64 0))), none, []⟩]
def f112.r1 : List IOper := [
⟨some 6, .mv (.t 0), none, []⟩,
⟨some 7, .len .slice (.t 6), none, []⟩,
⟨some 8, .mv (.c (.d (.int .i64 0))), none, []⟩]
def f112.r2 : List IOper := [
⟨some 9, .bin .lss (.t 8) (.t 7), none, []⟩]
def f112.r3 : List IOper := [
⟨some 10, .mv (.t 8), none, []⟩,
⟨some 5, .mv (.t 10), none, []⟩]
def f112.r4 : List IOper := [
⟨some 11, .mv (.t 1), none, []⟩,
⟨some 12, .mv (.t 0), none, []⟩,
⟨some 13, .mv (.t 5), none, []⟩,
⟨some 14, .iaddr 3 (.t 12) (.t 13), none, []⟩,
⟨some 15, .load 3 true (.t 14), none, []⟩,
⟨some 16, .callv (.t 11) [(.t 15)], none, []⟩]
def f112.r5 : List IOper := [
⟨some 17, .mv (.t 5), none, []⟩,
⟨some 4, .mv (.t 17), none, []⟩]
def f112.r6 : List IOper := [
⟨some 18, .bin .add (.t 8) (.c (.d (.int .i64 1))), none, []⟩,
⟨some 8, .mv (.t 18), none, []⟩]
def f112.l7 : IR := (.seq (.region f112.r2) (.seq (.cond (.t 9) .skip (.exit 0)) (.seq (.block 1 (.seq (.region f112.r3) (.seq (.region f112.r4) (.cond (.t 16) (.seq (.region f112.r5) .ret) .skip)))) (.region f112.r6))))
def f112.r8 : List IOper := [
⟨some 4, .mv (.c (.d (.int .i64 (-1)))), none, []⟩]
def f112 : IFn := ⟨2, 19, [.t 4], (.seq (.region f112.r0) (.seq (.seq (.region f112.r1) (.block 0 (.loop f112.l7))) (.seq (.region f112.r8) .ret)))⟩
def f113.r0 : List IOper := [
⟨some 2, .box 2 (.t 0), none, []⟩,
⟨some 3, .box 2 (.t 1), none, []⟩,
⟨some 4, .mv (.c (.d (.int .i64 0))), none, []⟩]
def f113.r1 : List IOper := [
⟨some 5, .mv (.c (.d (.int .i64 0))), none, []⟩]
def f113.r2 : List IOper := [
⟨some 8, .mv (.t 5), none, []⟩,
⟨some 9, .faddr 1 1 (.t 2), none, []⟩,
⟨some 10, .load 1 false (.t 9), none, []⟩,
⟨some 11, .len .slice (.t 10), none, []⟩,
⟨some 12, .bin .lss (.t 8) (.t 11), none, []⟩,
⟨some 13, .mv (.t 12), none, []⟩,
⟨some 14, .mv (.t 5), some (13, true), []⟩,
⟨some 15, .faddr 1 1 (.t 3), some (13, true), []⟩,
⟨some 16, .load 1 false (.t 15), some (13, true), []⟩,
⟨some 17, .len .slice (.t 16), some (13, true), []⟩,
⟨some 18, .bin .lss (.t 14) (.t 17), some (13, true), []⟩,
⟨some 19, .pick (.t 13) (.t 18) (.c (.d (.bool false))), none, []⟩]
def f113.r3 : List IOper := [
⟨some 22, .faddr 1 1 (.t 2), none, []⟩,
⟨some 23, .load 1 false (.t 22), none, [0]⟩,
⟨some 24, .mv (.t 5), none, []⟩,
⟨some 25, .iaddr 2 (.t 23) (.t 24), none, [1, 2]⟩,
⟨some 26, .load 2 true (.t 25), none, [3]⟩,
⟨some 27, .faddr 1 1 (.t 3), none, []⟩,
⟨some 28, .load 1 false (.t 27), none, [5]⟩,
⟨some 29, .mv (.t 5), none, []⟩,
⟨some 30, .iaddr 2 (.t 28) (.t 29), none, [6, 7]⟩,
⟨some 31, .load 2 true (.t 30), none, [8]⟩,
⟨some 6, .alloc [.d (.str []), .d (.int .i64 0)], none, []⟩,
⟨some 7, .alloc [.d (.str []), .d (.int .i64 0)], none, []⟩,
⟨none, .store 2 (.t 6) (.t 26), none, [10, 4, 0, 1, 2, 3, 4, 10, 11]⟩,
⟨none, .store 2 (.t 7) (.t 31), none, [11, 9, 12, 0, 1, 2, 3, 4, 5, 6, 7, 8, 9, 10, 11, 12]⟩]
def f113.r4 : List IOper := [
⟨some 33, .faddr 0 1 (.t 6), none, []⟩,
⟨some 34, .load 1 false (.t 33), none, []⟩,
⟨some 35, .faddr 0 1 (.t 7), none, []⟩,
⟨some 36, .load 1 false (.t 35), none, []⟩,
⟨some 37, .bin .lss (.t 34) (.t 36), none, []⟩,
⟨some 38, .mv (.t 37), none, []⟩,
⟨some 39, .faddr 0 1 (.t 6), some (38, false), []⟩,
⟨some 40, .load 1 false (.t 39), some (38, false), []⟩,
⟨some 41, .faddr 0 1 (.t 7), some (38, false), []⟩,
⟨some 42, .load 1 false (.t 41), some (38, false), []⟩,
⟨some 43, .bin .eql (.t 40) (.t 42), some (38, false), []⟩,
⟨some 44, .mv (.t 43), some (38, false), []⟩,
⟨some 45, .faddr 1 1 (.t 6), some (44, true), []⟩,
⟨some 46, .load 1 false (.t 45), some (44, true), []⟩,
⟨some 47, .faddr 1 1 (.t 7), some (44, true), []⟩,
⟨some 48, .load 1 false (.t 47), some (44, true), []⟩,
⟨some 49, .bin .lss (.t 46) (.t 48), some (44, true), []⟩,
⟨some 50, .pick (.t 44) (.t 49) (.c (.d (.bool false))), some (38, false), []⟩,
⟨some 51, .pick (.t 38) (.c (.d (.bool true))) (.t 50), none, []⟩,
⟨some 32, .mv (.t 51), none, []⟩]
def f113.r5 : List IOper := [
⟨some 4, .mv (.c (.d (.int .i64 (-1)))), none, []⟩]
def f113.r6 : List IOper := [
⟨some 53, .load 2 true (.t 6), none, []⟩,
⟨some 54, .load 2 true (.t 7), none, []⟩,
⟨some 55, .eqS true [.str, .int] (.t 53) (.t 54), none, []⟩,
⟨some 52, .mv (.t 55), none, []⟩]
def f113.r7 : List IOper := [
⟨some 4, .mv (.c (.d (.int .i64 1))), none, []⟩]
def f113.r8 : List IOper := [
⟨some 20, .mv (.t 5), none, []⟩,
⟨some 21, .bin .add (.t 20) (.c (.d (.int .i64 1))), none, []⟩,
⟨some 5, .mv (.t 21), none, []⟩]
def f113.l9 : IR := (.seq (.seq (.region f113.r2) (.cond (.t 19) .skip (.exit 0))) (.seq (.block 1 (.seq (.draw f113.r3) (.block 2 (.seq (.region f113.r4) (.cond (.t 32) (.seq (.region f113.r5) .ret) (.seq (.region f113.r6) (.cond (.t 52) (.seq (.region f113.r7) .ret) .skip))))))) (.region f113.r8)))
def f113.r10 : List IOper := [
⟨some 57, .faddr 1 1 (.t 2), none, []⟩,
⟨some 58, .load 1 false (.t 57), none, []⟩,
⟨some 59, .len .slice (.t 58), none, []⟩,
⟨some 60, .faddr 1 1 (.t 3), none, []⟩,
⟨some 61, .load 1 false (.t 60), none, []⟩,
⟨some 62, .len .slice (.t 61), none, []⟩,
⟨some 63, .bin .lss (.t 59) (.t 62), none, []⟩,
⟨some 64, .mv (.t 63), none, []⟩,
⟨some 65, .faddr 1 1 (.t 2), some (64, false), []⟩,
⟨some 66, .load 1 false (.t 65), some (64, false), []⟩,
⟨some 67, .len .slice (.t 66), some (64, false), []⟩,
⟨some 68, .faddr 1 1 (.t 3), some (64, false), []⟩,
⟨some 69, .load 1 false (.t 68), some (64, false), []⟩,
⟨some 70, .len .slice (.t 69), some (64, false), []⟩,
⟨some 71, .bin .eql (.t 67) (.t 70), some (64, false), []⟩,
⟨some 72, .mv (.t 71), some (64, false), []⟩,
⟨some 73, .faddr 0 1 (.t 2), some (72, true), []⟩,
⟨some 74, .load 1 false (.t 73), some (72, true), []⟩,
⟨some 75, .faddr 0 1 (.t 3), some (72, true), []⟩,
⟨some 76, .load 1 false (.t 75), some (72, true), []⟩,
⟨some 77, .bin .lss (.t 74) (.t 76), some (72, true), []⟩,
⟨some 78, .pick (.t 72) (.t 77) (.c (.d (.bool false))), some (64, false), []⟩,
⟨some 79, .pick (.t 64) (.c (.d (.bool true))) (.t 78), none, []⟩,
⟨some 56, .mv (.t 79), none, []⟩]
def f113.r11 : List IOper := [
⟨some 4, .mv (.c (.d (.int .i64 (-1)))), none, []⟩]
def f113.r12 : List IOper := [
⟨some 81, .faddr 1 1 (.t 2), none, []⟩,
⟨some 82, .load 1 false (.t 81), none, []⟩,
⟨some 83, .len .slice (.t 82), none, []⟩,
⟨some 84, .faddr 1 1 (.t 3), none, []⟩,
⟨some 85, .load 1 false (.t 84), none, []⟩,
⟨some 86, .len .slice (.t 85), none, []⟩,
⟨some 87, .bin .gtr (.t 83) (.t 86), none, []⟩,
⟨some 88, .mv (.t 87), none, []⟩,
⟨some 89, .faddr 0 1 (.t 2), some (88, false), []⟩,
⟨some 90, .load 1 false (.t 89), some (88, false), []⟩,
⟨some 91, .faddr 0 1 (.t 3), some (88, false), []⟩,
⟨some 92, .load 1 false (.t 91), some (88, false), []⟩,
⟨some 93, .bin .gtr (.t 90) (.t 92), some (88, false), []⟩,
⟨some 94, .pick (.t 88) (.c (.d (.bool true))) (.t 93), none, []⟩,
⟨some 80, .mv (.t 94), none, []⟩]
def f113.r13 : List IOper := [
⟨some 4, .mv (.c (.d (.int .i64 1))), none, []⟩]
def f113.r14 : List IOper := [
⟨some 4, .mv (.c (.d (.int .i64 0))), none, []⟩]
def f113 : IFn := ⟨2, 95, [.t 4], (.seq (.region f113.r0) (.seq (.seq (.region f113.r1) (.block 0 (.loop f113.l9))) (.seq (.block 3 (.seq (.region f113.r10) (.cond (.t 56) (.seq (.region f113.r11) .ret) (.seq (.region f113.r12) (.cond (.t 80) (.seq (.region f113.r13) .ret) .skip))))) (.seq (.region f113.r14) .ret))))⟩
def f115.r0 : List IOper := [
⟨some 2, .mv (.c (.d (.bool false))), none, []⟩]
def f115.r1 : List IOper := [
⟨some 7, .mv (.t 0), none, []⟩,
⟨some 8, .call 172 [(.t 7), (.c (.d (.str [95])))], none, []⟩]
def f115.r2 : List IOper := [
⟨some 10, .mv (.t 0), none, []⟩,
⟨some 11, .sslice (.t 10) (some (.c (.d (.int .i64 1)))) none, none, []⟩,
⟨some 12, .call 173 [(.t 11)], none, []⟩,
⟨some 9, .mv (.t 12), none, []⟩,
⟨some 13, .ext (.t 9) 0, none, []⟩,
⟨some 14, .ext (.t 9) 1, none, []⟩,
⟨some 3, .mv (.t 13), none, []⟩,
⟨some 4, .mv (.t 14), none, []⟩]
def f115.r3 : List IOper := [
⟨some 15, .mv (.t 4), none, []⟩,
⟨some 16, .eq false .iface (.t 15) (.c (.nili)), none, [0]⟩,
⟨some 17, .mv (.t 16), none, [1]⟩,
⟨some 18, .mv (.t 3), some (17, true), [2]⟩,
⟨some 19, .bin .gtr (.t 18) (.c (.d (.int .i64 0))), some (17, true), [3, 2]⟩,
⟨some 20, .pick (.t 17) (.t 19) (.c (.d (.bool false))), none, [2, 4]⟩,
⟨some 21, .mv (.t 20), none, [5, 2]⟩,
⟨some 22, .mv (.t 0), some (21, true), [6]⟩,
⟨some 23, .len .str (.t 22), some (21, true), [7, 6]⟩,
⟨some 24, .bin .leq (.t 23) (.c (.d (.int .i64 10))), some (21, true), [8, 6]⟩,
⟨some 25, .pick (.t 21) (.t 24) (.c (.d (.bool false))), none, [6, 9]⟩,
⟨some 26, .mv (.t 25), none, [10, 6]⟩,
⟨some 27, .mv (.t 3), some (26, true), [11]⟩,
⟨some 28, .call 107 [(.t 27)], some (26, true), [12, 11, 11]⟩,
⟨some 29, .mv (.t 0), some (26, true), [11]⟩,
⟨some 30, .sslice (.t 29) (some (.c (.d (.int .i64 1)))) none, some (26, true), [14, 11]⟩,
⟨some 31, .bin .eql (.t 28) (.t 30), some (26, true), [13, 15, 11]⟩,
⟨some 32, .pick (.t 26) (.t 31) (.c (.d (.bool false))), none, [11, 16]⟩,
⟨some 2, .mv (.t 32), none, [17, 13, 0, 1, 2, 3, 4, 5, 6, 7, 8, 9, 10, 11, 12, 13, 14, 15, 16, 17]⟩]
def f115.r4 : List IOper := [
⟨some 33, .mv (.t 0), none, []⟩,
⟨some 34, .strToBytes (.t 33), none, []⟩,
⟨some 35, .len .slice (.t 34), none, []⟩,
⟨some 36, .mv (.c (.d (.int .i64 0))), none, []⟩]
def f115.r5 : List IOper := [
⟨some 37, .bin .lss (.t 36) (.t 35), none, []⟩]
def f115.r6 : List IOper := [
⟨some 38, .mv (.t 36), none, []⟩,
⟨some 39, .iaddr 1 (.t 34) (.t 36), none, []⟩,
⟨some 40, .load 1 false (.t 39), none, []⟩,
⟨some 5, .mv (.t 38), none, []⟩,
⟨some 6, .mv (.t 40), none, []⟩]
def f115.r7 : List IOper := [
⟨some 41, .mv (.t 6), none, []⟩,
⟨some 42, .bin .lss (.t 41) (.c (.d (.int .u8 97))), none, []⟩,
⟨some 43, .mv (.t 42), none, []⟩,
⟨some 44, .mv (.t 6), some (43, false), []⟩,
⟨some 45, .bin .gtr (.t 44) (.c (.d (.int .u8 122))), some (43, false), []⟩,
⟨some 46, .pick (.t 43) (.c (.d (.bool true))) (.t 45), none, []⟩,
⟨some 47, .mv (.t 46), none, []⟩,
⟨some 48, .mv (.t 5), some (47, true), []⟩,
⟨some 49, .bin .eql (.t 48) (.c (.d (.int .i64 0))), some (47, true), []⟩,
⟨some 50, .mv (.t 49), some (47, true), []⟩,
⟨some 51, .mv (.t 6), some (50, false), []⟩,
⟨some 52, .bin .lss (.t 51) (.c (.d (.int .u8 48))), some (50, false), []⟩,
⟨some 53, .pick (.t 50) (.c (.d (.bool true))) (.t 52), some (47, true), []⟩,
⟨some 54, .mv (.t 53), some (47, true), []⟩,
⟨some 55, .mv (.t 6), some (54, false), []⟩,
⟨some 56, .bin .gtr (.t 55) (.c (.d (.int .u8 57))), some (54, false), []⟩,
⟨some 57, .pick (.t 54) (.c (.d (.bool true))) (.t 56), some (47, true), []⟩,
⟨some 58, .pick (.t 47) (.t 57) (.c (.d (.bool false))), none, []⟩]
def f115.r8 : List IOper := [
⟨some 2, .mv (.c (.d (.bool false))), none, []⟩]
def f115.r9 : List IOper := [
⟨some 59, .bin .add (.t 36) (.c (.d (.int .i64 1))), none, []⟩,
⟨some 36, .mv (.t 59), none, []⟩]
def f115.l10 : IR := (.seq (.region f115.r5) (.seq (.cond (.t 37) .skip (.exit 0)) (.seq (.block 1 (.seq (.region f115.r6) (.seq (.region f115.r7) (.cond (.t 58) (.seq (.region f115.r8) .ret) .skip)))) (.region f115.r9))))
def f115.r11 : List IOper := [
⟨some 60, .mv (.t 0), none, []⟩,
⟨some 61, .bin .neq (.t 60) (.c (.d (.str []))), none, []⟩,
⟨some 62, .mv (.t 61), none, []⟩,
⟨some 63, .mv (.t 0), some (62, true), []⟩,
⟨some 64, .len .str (.t 63), some (62, true), []⟩,
⟨some 65, .bin .leq (.t 64) (.c (.d (.int .i64 30))), some (62, true), []⟩,
⟨some 66, .pick (.t 62) (.t 65) (.c (.d (.bool false))), none, []⟩,
⟨some 2, .mv (.t 66), none, []⟩]
def f115 : IFn := ⟨1, 67, [.t 2], (.seq (.region f115.r0) (.seq (.seq (.region f115.r1) (.cond (.t 8) (.seq (.region f115.r2) (.seq (.draw f115.r3) .ret)) .skip)) (.seq (.seq (.region f115.r4) (.block 0 (.loop f115.l10))) (.seq (.region f115.r11) .ret))))⟩
def f116.r0 : List IOper := [
⟨some 4, .mv (.c (.d (.bool false))), none, []⟩]
def f116.r1 : List IOper := [
⟨some 5, .mv (.t 0), none, []⟩,
⟨some 6, .mv (.t 1), none, []⟩,
⟨some 7, .call 174 [(.t 5), (.t 6)], none, []⟩,
⟨some 8, .bin .geq (.t 7) (.c (.d (.int .i64 0))), none, []⟩,
⟨some 4, .mv (.t 8), none, []⟩]
def f116 : IFn := ⟨2, 9, [.t 4], (.seq (.region f116.r0) (.seq (.region f116.r1) .ret))⟩
def f117.r0 : List IOper := [
⟨some 1, .box 2 (.t 0), none, []⟩,
⟨some 2, .mv (.c (.d (.bool false))), none, []⟩]
def f117.r1 : List IOper := [
⟨some 3, .load 2 true (.t 1), none, []⟩,
⟨some 4, .call 89 [(.t 3)], none, []⟩,
⟨some 5, .un .not (.t 4), none, []⟩,
⟨some 2, .mv (.t 5), none, []⟩]
def f117 : IFn := ⟨1, 6, [.t 2], (.seq (.region f117.r0) (.seq (.region f117.r1) .ret))⟩
def f118.r0 : List IOper := [
⟨some 4, .mv (.c (.nils)), none, []⟩]
def f118.r1 : List IOper := [
⟨some 5, .mv (.t 1), none, []⟩,
⟨some 6, .bin .lss (.t 5) (.c (.d (.int .i64 0))), none, []⟩]
def f118.r2 : List IOper := [
⟨some 7, .mkiface 9 (.c (.d (.str [99, 97, 110, 110, 111, 116, 32, 98, 101, 32, 110, 101, 103, 97, 116, 105, 118, 101]))), none, []⟩,
⟨none, .bad, none, []⟩]
def f118.r3 : List IOper := [
⟨some 8, .mv (.t 1), none, []⟩,
⟨some 9, .mv (.t 0), none, []⟩,
⟨some 10, .cap (.t 9), none, []⟩,
⟨some 11, .mv (.t 0), none, []⟩,
⟨some 12, .len .slice (.t 11), none, []⟩,
⟨some 13, .bin .sub (.t 10) (.t 12), none, []⟩,
⟨some 14, .bin .sub (.t 8) (.t 13), none, []⟩,
⟨some 1, .mv (.t 14), none, []⟩]
def f118.r4 : List IOper := [
⟨some 15, .mv (.t 1), none, []⟩,
⟨some 16, .bin .gtr (.t 15) (.c (.d (.int .i64 0))), none, []⟩]
def f118.r5 : List IOper := [
⟨some 17, .mv (.t 0), none, []⟩,
⟨some 18, .mv (.t 0), none, []⟩,
⟨some 19, .cap (.t 18), none, []⟩,
⟨some 20, .lslice 3 (.t 17) none (some (.t 19)), none, []⟩,
⟨some 21, .mv (.t 1), none, []⟩,
⟨some 22, .appendN 3 56 [.d (.str []), .d (.str []), .nils] (.t 20) (.t 21), none, []⟩,
⟨some 23, .mv (.t 0), none, []⟩,
⟨some 24, .len .slice (.t 23), none, []⟩,
⟨some 25, .lslice 3 (.t 22) none (some (.t 24)), none, []⟩,
⟨some 0, .mv (.t 25), none, []⟩]
def f118.r6 : List IOper := [
⟨some 26, .mv (.t 0), none, []⟩,
⟨some 4, .mv (.t 26), none, []⟩]
def f118 : IFn := ⟨2, 27, [.t 4], (.seq (.region f118.r0) (.seq (.seq (.region f118.r1) (.cond (.t 6) (.region f118.r2) .skip)) (.seq (.seq (.region f118.r3) (.seq (.region f118.r4) (.cond (.t 16) (.region f118.r5) .skip))) (.seq (.region f118.r6) .ret))))⟩
def f120.r0 : List IOper := [
⟨some 2, .mv (.c (.d (.bool false))), none, []⟩]
def f120.r1 : List IOper := [
⟨some 5, .mv (.t 0), none, []⟩,
⟨some 6, .len .str (.t 5), none, []⟩,
⟨some 7, .bin .eql (.t 6) (.c (.d (.int .i64 0))), none, []⟩,
⟨some 8, .mv (.t 7), none, []⟩,
⟨some 9, .mv (.t 0), some (8, false), []⟩,
⟨some 10, .len .str (.t 9), some (8, false), []⟩,
⟨some 11, .bin .gtr (.t 10) (.c (.d (.int .i64 30))), some (8, false), []⟩,
⟨some 12, .pick (.t 8) (.c (.d (.bool true))) (.t 11), none, []⟩]
def f120.r2 : List IOper := [
⟨some 2, .mv (.c (.d (.bool false))), none, []⟩]
def f120.r3 : List IOper := [
⟨some 13, .mv (.t 0), none, []⟩,
⟨some 14, .idxS (.t 13) (.c (.d (.int .i64 0))), none, []⟩,
⟨some 15, .bin .eql (.t 14) (.c (.d (.int .u8 95))), none, []⟩]
def f120.r4 : List IOper := [
⟨some 16, .mv (.t 0), none, []⟩,
⟨some 17, .len .str (.t 16), none, []⟩,
⟨some 18, .bin .lss (.t 17) (.c (.d (.int .i64 2))), none, []⟩,
⟨some 19, .mv (.t 18), none, []⟩,
⟨some 20, .mv (.t 0), some (19, false), []⟩,
⟨some 21, .len .str (.t 20), some (19, false), []⟩,
⟨some 22, .bin .gtr (.t 21) (.c (.d (.int .i64 10))), some (19, false), []⟩,
⟨some 23, .pick (.t 19) (.c (.d (.bool true))) (.t 22), none, []⟩,
⟨some 24, .mv (.t 23), none, []⟩,
⟨some 25, .mv (.t 0), some (24, false), []⟩,
⟨some 26, .idxS (.t 25) (.c (.d (.int .i64 1))), some (24, false), []⟩,
⟨some 27, .bin .eql (.t 26) (.c (.d (.int .u8 48))), some (24, false), []⟩,
⟨some 28, .pick (.t 24) (.c (.d (.bool true))) (.t 27), none, []⟩]
def f120.r5 : List IOper := [
⟨some 2, .mv (.c (.d (.bool false))), none, []⟩]
def f120.r6 : List IOper := [
⟨some 3, .mv (.c (.d (.int .i64 1))), none, []⟩]
def f120.r7 : List IOper := [
⟨some 29, .mv (.t 3), none, []⟩,
⟨some 30, .mv (.t 0), none, []⟩,
⟨some 31, .len .str (.t 30), none, []⟩,
⟨some 32, .bin .lss (.t 29) (.t 31), none, []⟩]
def f120.r8 : List IOper := [
⟨some 35, .mv (.t 0), none, []⟩,
⟨some 36, .mv (.t 3), none, []⟩,
⟨some 37, .idxS (.t 35) (.t 36), none, []⟩,
⟨some 38, .call 177 [(.t 37)], none, []⟩,
⟨some 39, .un .not (.t 38), none, []⟩]
def f120.r9 : List IOper := [
⟨some 2, .mv (.c (.d (.bool false))), none, []⟩]
def f120.r10 : List IOper := [
⟨some 33, .mv (.t 3), none, []⟩,
⟨some 34, .bin .add (.t 33) (.c (.d (.int .i64 1))), none, []⟩,
⟨some 3, .mv (.t 34), none, []⟩]
def f120.l11 : IR := (.seq (.seq (.region f120.r7) (.cond (.t 32) .skip (.exit 0))) (.seq (.block 1 (.seq (.region f120.r8) (.cond (.t 39) (.seq (.region f120.r9) .ret) .skip))) (.region f120.r10)))
def f120.r12 : List IOper := [
⟨some 2, .mv (.c (.d (.bool true))), none, []⟩]
def f120.r13 : List IOper := [
⟨some 4, .mv (.c (.d (.int .i64 0))), none, []⟩]
def f120.r14 : List IOper := [
⟨some 40, .mv (.t 4), none, []⟩,
⟨some 41, .mv (.t 0), none, []⟩,
⟨some 42, .len .str (.t 41), none, []⟩,
⟨some 43, .bin .lss (.t 40) (.t 42), none, []⟩]
def f120.r15 : List IOper := [
⟨some 46, .mv (.t 0), none, []⟩,
⟨some 47, .mv (.t 4), none, []⟩,
⟨some 48, .idxS (.t 46) (.t 47), none, []⟩,
⟨some 49, .call 178 [(.t 48)], none, []⟩,
⟨some 50, .un .not (.t 49), none, []⟩,
⟨some 51, .mv (.t 50), none, []⟩,
⟨some 52, .mv (.t 4), some (51, true), []⟩,
⟨some 53, .bin .eql (.t 52) (.c (.d (.int .i64 0))), some (51, true), []⟩,
⟨some 54, .mv (.t 53), some (51, true), []⟩,
⟨some 55, .mv (.t 0), some (54, false), []⟩,
⟨some 56, .mv (.t 4), some (54, false), []⟩,
⟨some 57, .idxS (.t 55) (.t 56), some (54, false), []⟩,
⟨some 58, .call 177 [(.t 57)], some (54, false), []⟩,
⟨some 59, .un .not (.t 58), some (54, false), []⟩,
⟨some 60, .pick (.t 54) (.c (.d (.bool true))) (.t 59), some (51, true), []⟩,
⟨some 61, .pick (.t 51) (.t 60) (.c (.d (.bool false))), none, []⟩]
def f120.r16 : List IOper := [
⟨some 2, .mv (.c (.d (.bool false))), none, []⟩]
def f120.r17 : List IOper := [
⟨some 44, .mv (.t 4), none, []⟩,
⟨some 45, .bin .add (.t 44) (.c (.d (.int .i64 1))), none, []⟩,
⟨some 4, .mv (.t 45), none, []⟩]
def f120.l18 : IR := (.seq (.seq (.region f120.r14) (.cond (.t 43) .skip (.exit 2))) (.seq (.block 3 (.seq (.region f120.r15) (.cond (.t 61) (.seq (.region f120.r16) .ret) .skip))) (.region f120.r17)))
def f120.r19 : List IOper := [
⟨some 2, .mv (.c (.d (.bool true))), none, []⟩]
def f120 : IFn := ⟨1, 62, [.t 2], (.seq (.region f120.r0) (.seq (.seq (.region f120.r1) (.cond (.t 12) (.seq (.region f120.r2) .ret) .skip)) (.seq (.seq (.region f120.r3) (.cond (.t 15) (.seq (.seq (.region f120.r4) (.cond (.t 28) (.seq (.region f120.r5) .ret) .skip)) (.seq (.seq (.region f120.r6) (.block 0 (.loop f120.l11))) (.seq (.region f120.r12) .ret))) .skip)) (.seq (.seq (.region f120.r13) (.block 2 (.loop f120.l18))) (.seq (.region f120.r19) .ret)))))⟩
def f123.r0 : List IOper := [
⟨some 2, .box 2 (.t 0), none, []⟩,
⟨some 3, .box 2 (.t 1), none, []⟩,
⟨some 4, .mv (.c (.d (.bool false))), none, []⟩]
def f123.r1 : List IOper := [
⟨some 5, .faddr 0 1 (.t 2), none, []⟩,
⟨some 6, .load 1 false (.t 5), none, []⟩,
⟨some 7, .faddr 0 1 (.t 3), none, []⟩,
⟨some 8, .load 1 false (.t 7), none, []⟩,
⟨some 9, .bin .eql (.t 6) (.t 8), none, []⟩,
⟨some 10, .mv (.t 9), none, []⟩,
⟨some 11, .faddr 1 1 (.t 2), some (10, true), []⟩,
⟨some 12, .load 1 false (.t 11), some (10, true), []⟩,
⟨some 13, .faddr 1 1 (.t 3), some (10, true), []⟩,
⟨some 14, .load 1 false (.t 13), some (10, true), []⟩,
⟨some 15, .call 179 [(.t 12), (.t 14), (.f 180)], some (10, true), []⟩,
⟨some 16, .pick (.t 10) (.t 15) (.c (.d (.bool false))), none, []⟩,
⟨some 4, .mv (.t 16), none, []⟩]
def f123 : IFn := ⟨2, 17, [.t 4], (.seq (.region f123.r0) (.seq (.region f123.r1) .ret))⟩
def f138.r0 : List IOper := [
⟨some 2, .mv (.c (.d (.bool false))), none, []⟩]
def f138.r1 : List IOper := [
⟨some 3, .mv (.c (.d (.int .i64 1))), none, []⟩]
def f138.r2 : List IOper := [
⟨some 4, .mv (.t 3), none, []⟩,
⟨some 5, .mv (.t 0), none, []⟩,
⟨some 6, .len .str (.t 5), none, []⟩,
⟨some 7, .bin .lss (.t 4) (.t 6), none, []⟩]
def f138.r3 : List IOper := [
⟨some 10, .mv (.t 0), none, []⟩,
⟨some 11, .mv (.t 3), none, []⟩,
⟨some 12, .idxS (.t 10) (.t 11), none, []⟩,
⟨some 13, .bin .lss (.t 12) (.c (.d (.int .u8 48))), none, []⟩,
⟨some 14, .mv (.t 13), none, []⟩,
⟨some 15, .mv (.t 0), some (14, false), []⟩,
⟨some 16, .mv (.t 3), some (14, false), []⟩,
⟨some 17, .idxS (.t 15) (.t 16), some (14, false), []⟩,
⟨some 18, .bin .gtr (.t 17) (.c (.d (.int .u8 57))), some (14, false), []⟩,
⟨some 19, .pick (.t 14) (.c (.d (.bool true))) (.t 18), none, []⟩]
def f138.r4 : List IOper := [
⟨some 2, .mv (.c (.d (.bool false))), none, []⟩]
def f138.r5 : List IOper := [
⟨some 8, .mv (.t 3), none, []⟩,
⟨some 9, .bin .add (.t 8) (.c (.d (.int .i64 1))), none, []⟩,
⟨some 3, .mv (.t 9), none, []⟩]
def f138.l6 : IR := (.seq (.seq (.region f138.r2) (.cond (.t 7) .skip (.exit 0))) (.seq (.block 1 (.seq (.region f138.r3) (.cond (.t 19) (.seq (.region f138.r4) .ret) .skip))) (.region f138.r5)))
def f138.r7 : List IOper := [
⟨some 20, .mv (.t 0), none, []⟩,
⟨some 21, .len .str (.t 20), none, []⟩,
⟨some 22, .bin .geq (.t 21) (.c (.d (.int .i64 1))), none, []⟩,
⟨some 23, .mv (.t 22), none, []⟩,
⟨some 24, .mv (.t 0), some (23, true), []⟩,
⟨some 25, .len .str (.t 24), some (23, true), []⟩,
⟨some 26, .bin .leq (.t 25) (.c (.d (.int .i64 30))), some (23, true), []⟩,
⟨some 27, .pick (.t 23) (.t 26) (.c (.d (.bool false))), none, []⟩,
⟨some 28, .mv (.t 27), none, []⟩,
⟨some 29, .mv (.t 0), some (28, true), []⟩,
⟨some 30, .idxS (.t 29) (.c (.d (.int .i64 0))), some (28, true), []⟩,
⟨some 31, .bin .geq (.t 30) (.c (.d (.int .u8 65))), some (28, true), []⟩,
⟨some 32, .pick (.t 28) (.t 31) (.c (.d (.bool false))), none, []⟩,
⟨some 33, .mv (.t 32), none, []⟩,
⟨some 34, .mv (.t 0), some (33, true), []⟩,
⟨some 35, .idxS (.t 34) (.c (.d (.int .i64 0))), some (33, true), []⟩,
⟨some 36, .bin .leq (.t 35) (.c (.d (.int .u8 90))), some (33, true), []⟩,
⟨some 37, .pick (.t 33) (.t 36) (.c (.d (.bool false))), none, []⟩,
⟨some 2, .mv (.t 37), none, []⟩]
def f138 : IFn := ⟨1, 38, [.t 2], (.seq (.region f138.r0) (.seq (.seq (.region f138.r1) (.block 0 (.loop f138.l6))) (.seq (.region f138.r7) .ret)))⟩
def f142.r0 : List IOper := [
⟨some 2, .mv (.c (.d (.bool false))), none, []⟩]
def f142.r1 : List IOper := [
⟨some 3, .mv (.t 0), none, []⟩,
⟨some 4, .bin .geq (.t 3) (.c (.d (.int .i64 (-1000000)))), none, []⟩,
⟨some 5, .mv (.t 4), none, []⟩,
⟨some 6, .mv (.t 0), some (5, true), []⟩,
⟨some 7, .bin .leq (.t 6) (.c (.d (.int .i64 1000000))), some (5, true), []⟩,
⟨some 8, .pick (.t 5) (.t 7) (.c (.d (.bool false))), none, []⟩,
⟨some 2, .mv (.t 8), none, []⟩]
def f142 : IFn := ⟨1, 9, [.t 2], (.seq (.region f142.r0) (.seq (.region f142.r1) .ret))⟩
def f153.r0 : List IOper := [
⟨some 2, .mv (.c (.d (.bool false))), none, []⟩]
def f153.r1 : List IOper := [
⟨some 3, .mv (.t 0), none, []⟩,
⟨some 4, .bin .geq (.t 3) (.c (.d (.int .i64 (-1000000)))), none, []⟩,
⟨some 5, .mv (.t 4), none, []⟩,
⟨some 6, .mv (.t 0), some (5, true), []⟩,
⟨some 7, .bin .leq (.t 6) (.c (.d (.int .i64 1000000))), some (5, true), []⟩,
⟨some 8, .pick (.t 5) (.t 7) (.c (.d (.bool false))), none, []⟩,
⟨some 2, .mv (.t 8), none, []⟩]
def f153 : IFn := ⟨1, 9, [.t 2], (.seq (.region f153.r0) (.seq (.region f153.r1) .ret))⟩
def f157.r0 : List IOper := [
⟨some 8, .mv (.c (.d (.bool true))), none, []⟩]
def f157.r1 : List IOper := [
⟨some 9, .mv (.c (.d (.bool true))), none, []⟩]
def f157.r2 : List IOper := [
⟨some 19, .mv (.t 2), none, []⟩,
⟨some 20, .mv (.t 1), none, []⟩,
⟨some 21, .bin .sub (.t 19) (.t 20), none, []⟩,
⟨some 10, .mv (.t 21), none, []⟩]
def f157.r3 : List IOper := [
⟨some 22, .mv (.t 10), none, []⟩,
⟨some 23, .bin .leq (.t 22) (.c (.d (.int .i64 12))), none, []⟩]
def f157.r4 : List IOper := [
⟨some 24, .mv (.t 0), none, []⟩,
⟨some 25, .mv (.t 1), none, []⟩,
⟨some 26, .mv (.t 2), none, []⟩,
⟨some 27, .call 212 [(.t 24), (.t 25), (.t 26)], none, []⟩]
def f157.r5 : List IOper := [
⟨some 28, .mv (.t 3), none, []⟩,
⟨some 29, .bin .eql (.t 28) (.c (.d (.int .i64 0))), none, []⟩]
def f157.r6 : List IOper := [
⟨some 30, .mv (.t 0), none, []⟩,
⟨some 31, .mv (.t 1), none, []⟩,
⟨some 32, .mv (.t 2), none, []⟩,
⟨some 33, .call 213 [(.t 30), (.t 31), (.t 32)], none, []⟩]
def f157.r7 : List IOper := [
⟨some 34, .mv (.t 8), none, []⟩,
⟨some 35, .un .not (.t 34), none, []⟩]
def f157.r8 : List IOper := [
⟨some 36, .mv (.t 0), none, []⟩,
⟨some 37, .mv (.t 1), none, []⟩,
⟨some 38, .mv (.t 2), none, []⟩,
⟨some 39, .call 214 [(.t 36), (.t 37), (.t 38)], none, []⟩]
def f157.r9 : List IOper := [
⟨some 40, .mv (.t 3), none, []⟩,
⟨some 41, .bin .sub (.t 40) (.c (.d (.int .i64 1))), none, []⟩,
⟨some 3, .mv (.t 41), none, []⟩]
def f157.r10 : List IOper := [
⟨some 43, .mv (.t 0), none, []⟩,
⟨some 44, .mv (.t 1), none, []⟩,
⟨some 45, .mv (.t 2), none, []⟩,
⟨some 46, .call 215 [(.t 43), (.t 44), (.t 45)], none, []⟩,
⟨some 42, .mv (.t 46), none, []⟩,
⟨some 47, .ext (.t 42) 0, none, []⟩,
⟨some 48, .ext (.t 42) 1, none, []⟩,
⟨some 11, .mv (.t 47), none, []⟩,
⟨some 12, .mv (.t 48), none, []⟩]
def f157.r11 : List IOper := [
⟨some 49, .mv (.t 12), none, []⟩,
⟨some 50, .bin .eql (.t 49) (.c (.d (.int .i64 2))), none, []⟩]
def f157.r12 : List IOper := [
⟨some 51, .mv (.t 0), none, []⟩,
⟨some 52, .mv (.t 1), none, []⟩,
⟨some 53, .mv (.t 2), none, []⟩,
⟨some 54, .call 216 [(.t 51), (.t 52), (.t 53)], none, []⟩]
def f157.r13 : List IOper := [
⟨some 55, .mv (.t 2), none, []⟩,
⟨some 56, .bin .sub (.t 55) (.c (.d (.int .i64 1))), none, []⟩,
⟨some 57, .mv (.t 11), none, []⟩,
⟨some 58, .mv (.t 1), none, []⟩,
⟨some 59, .bin .sub (.t 57) (.t 58), none, []⟩,
⟨some 60, .bin .sub (.t 56) (.t 59), none, []⟩,
⟨some 11, .mv (.t 60), none, []⟩]
def f157.r14 : List IOper := [
⟨some 12, .mv (.c (.d (.int .i64 1))), none, []⟩]
def f157.r15 : List IOper := [
⟨some 61, .mv (.t 8), none, []⟩,
⟨some 62, .mv (.t 61), none, []⟩,
⟨some 63, .mv (.t 9), some (62, true), []⟩,
⟨some 64, .pick (.t 62) (.t 63) (.c (.d (.bool false))), none, []⟩,
⟨some 65, .mv (.t 64), none, []⟩,
⟨some 66, .mv (.t 12), some (65, true), []⟩,
⟨some 67, .bin .eql (.t 66) (.c (.d (.int .i64 1))), some (65, true), []⟩,
⟨some 68, .pick (.t 65) (.t 67) (.c (.d (.bool false))), none, []⟩]
def f157.r16 : List IOper := [
⟨some 69, .mv (.t 0), none, []⟩,
⟨some 70, .mv (.t 1), none, []⟩,
⟨some 71, .mv (.t 2), none, []⟩,
⟨some 72, .call 217 [(.t 69), (.t 70), (.t 71)], none, []⟩]
def f157.r17 : List IOper := [
⟨some 73, .mv (.t 1), none, []⟩,
⟨some 74, .bin .gtr (.t 73) (.c (.d (.int .i64 0))), none, [0]⟩,
⟨some 75, .mv (.t 74), none, [1]⟩,
⟨some 76, .mv (.t 0), some (75, true), [2]⟩,
⟨some 77, .mv (.t 1), some (75, true), [2]⟩,
⟨some 78, .bin .sub (.t 77) (.c (.d (.int .i64 1))), some (75, true), [4, 2]⟩,
⟨some 79, .iaddr 1 (.t 76) (.t 78), some (75, true), [3, 5, 2]⟩,
⟨some 80, .load 1 false (.t 79), some (75, true), [6, 2]⟩,
⟨some 81, .mv (.t 0), some (75, true), [2]⟩,
⟨some 82, .mv (.t 11), some (75, true), [2]⟩,
⟨some 83, .iaddr 1 (.t 81) (.t 82), some (75, true), [8, 9, 2]⟩,
⟨some 84, .load 1 false (.t 83), some (75, true), [10, 2]⟩,
⟨some 85, .call 218 [(.t 80), (.t 84)], some (75, true), [7, 11, 2, 2]⟩,
⟨some 86, .un .not (.t 85), some (75, true), [12, 2]⟩,
⟨some 87, .pick (.t 75) (.t 86) (.c (.d (.bool false))), none, [2, 13]⟩]
def f157.r18 : List IOper := [
⟨some 88, .mv (.t 0), none, []⟩,
⟨some 89, .mv (.t 1), none, []⟩,
⟨some 90, .mv (.t 2), none, []⟩,
⟨some 91, .mv (.t 11), none, []⟩,
⟨some 92, .call 219 [(.t 88), (.t 89), (.t 90), (.t 91)], none, []⟩,
⟨some 13, .mv (.t 92), none, []⟩]
def f157.r19 : List IOper := [
⟨some 93, .mv (.t 13), none, []⟩,
⟨some 1, .mv (.t 93), none, []⟩]
def f157.r20 : List IOper := [
⟨some 95, .mv (.t 0), none, []⟩,
⟨some 96, .mv (.t 1), none, []⟩,
⟨some 97, .mv (.t 2), none, []⟩,
⟨some 98, .mv (.t 11), none, []⟩,
⟨some 99, .call 220 [(.t 95), (.t 96), (.t 97), (.t 98)], none, []⟩,
⟨some 94, .mv (.t 99), none, []⟩,
⟨some 100, .ext (.t 94) 0, none, []⟩,
⟨some 101, .ext (.t 94) 1, none, []⟩,
⟨some 14, .mv (.t 100), none, []⟩,
⟨some 15, .mv (.t 101), none, []⟩]
def f157.r21 : List IOper := [
⟨some 102, .mv (.t 15), none, []⟩,
⟨some 9, .mv (.t 102), none, []⟩]
def f157.r22 : List IOper := [
⟨some 103, .mv (.t 14), none, []⟩,
⟨some 104, .mv (.t 1), none, []⟩,
⟨some 105, .bin .sub (.t 103) (.t 104), none, []⟩,
⟨some 106, .mv (.t 2), none, []⟩,
⟨some 107, .mv (.t 14), none, []⟩,
⟨some 108, .bin .sub (.t 106) (.t 107), none, []⟩,
⟨some 16, .mv (.t 105), none, []⟩,
⟨some 17, .mv (.t 108), none, []⟩]
def f157.r23 : List IOper := [
⟨some 109, .mv (.t 10), none, []⟩,
⟨some 110, .bin .quo (.t 109) (.c (.d (.int .i64 8))), none, []⟩,
⟨some 18, .mv (.t 110), none, []⟩]
def f157.r24 : List IOper := [
⟨some 111, .mv (.t 16), none, []⟩,
⟨some 112, .mv (.t 17), none, []⟩,
⟨some 113, .bin .lss (.t 111) (.t 112), none, []⟩]
def f157.r25 : List IOper := [
⟨some 114, .mv (.t 16), none, []⟩,
⟨some 115, .mv (.t 18), none, []⟩,
⟨some 116, .bin .geq (.t 114) (.t 115), none, []⟩,
⟨some 8, .mv (.t 116), none, []⟩]
def f157.r26 : List IOper := [
⟨some 117, .mv (.t 0), none, []⟩,
⟨some 118, .mv (.t 1), none, []⟩,
⟨some 119, .mv (.t 14), none, []⟩,
⟨some 120, .mv (.t 3), none, []⟩,
⟨some 121, .call 157 [(.t 117), (.t 118), (.t 119), (.t 120)], none, []⟩]
def f157.r27 : List IOper := [
⟨some 122, .mv (.t 14), none, []⟩,
⟨some 123, .bin .add (.t 122) (.c (.d (.int .i64 1))), none, []⟩,
⟨some 1, .mv (.t 123), none, []⟩]
def f157.r28 : List IOper := [
⟨some 124, .mv (.t 17), none, []⟩,
⟨some 125, .mv (.t 18), none, []⟩,
⟨some 126, .bin .geq (.t 124) (.t 125), none, []⟩,
⟨some 8, .mv (.t 126), none, []⟩]
def f157.r29 : List IOper := [
⟨some 127, .mv (.t 0), none, []⟩,
⟨some 128, .mv (.t 14), none, []⟩,
⟨some 129, .bin .add (.t 128) (.c (.d (.int .i64 1))), none, []⟩,
⟨some 130, .mv (.t 2), none, []⟩,
⟨some 131, .mv (.t 3), none, []⟩,
⟨some 132, .call 157 [(.t 127), (.t 129), (.t 130), (.t 131)], none, []⟩]
def f157.r30 : List IOper := [
⟨some 133, .mv (.t 14), none, []⟩,
⟨some 2, .mv (.t 133), none, []⟩]
def f157.l31 : IR := (.block 1 (.seq (.region f157.r2) (.seq (.seq (.region f157.r3) (.cond (.t 23) (.seq (.region f157.r4) .ret) .skip)) (.seq (.seq (.region f157.r5) (.cond (.t 29) (.seq (.region f157.r6) .ret) .skip)) (.seq (.seq (.region f157.r7) (.cond (.t 35) (.seq (.region f157.r8) (.region f157.r9)) .skip)) (.seq (.region f157.r10) (.seq (.seq (.region f157.r11) (.cond (.t 50) (.seq (.region f157.r12) (.seq (.region f157.r13) (.region f157.r14))) .skip)) (.seq (.seq (.region f157.r15) (.cond (.t 68) (.seq (.region f157.r16) (.cond (.t 72) .ret .skip)) .skip)) (.seq (.seq (.draw f157.r17) (.cond (.t 87) (.seq (.region f157.r18) (.seq (.region f157.r19) (.exit 1))) .skip)) (.seq (.region f157.r20) (.seq (.region f157.r21) (.seq (.region f157.r22) (.seq (.region f157.r23) (.seq (.region f157.r24) (.cond (.t 113) (.seq (.region f157.r25) (.seq (.region f157.r26) (.region f157.r27))) (.seq (.region f157.r28) (.seq (.region f157.r29) (.region f157.r30))))))))))))))))))
def f157 : IFn := ⟨4, 134, [], (.seq (.region f157.r0) (.seq (.region f157.r1) (.block 0 (.loop f157.l31))))⟩
def f158.r0 : List IOper := [
⟨some 2, .mv (.c (.d (.int .i64 0))), none, []⟩]
def f158.r1 : List IOper := [
⟨some 3, .mv (.t 0), none, []⟩,
⟨some 4, .conv .u32 (.t 3), none, []⟩,
⟨some 5, .call 221 [(.t 4)], none, []⟩,
⟨some 2, .mv (.t 5), none, []⟩]
def f158.r2 : List IOper := [
⟨some 6, .mv (.t 0), none, []⟩,
⟨some 7, .call 222 [(.t 6)], none, []⟩,
⟨some 2, .mv (.t 7), none, []⟩]
def f158 : IFn := ⟨1, 8, [.t 2], (.seq (.region f158.r0) (.seq (.cond (.c (.d (.bool false))) (.seq (.region f158.r1) .ret) .skip) (.seq (.region f158.r2) .ret)))⟩
def f170.r0 : List IOper := [
⟨some 2, .mv (.c (.nils)), none, []⟩]
def f170.r1 : List IOper := [
⟨some 3, .mv (.t 0), none, []⟩,
⟨some 4, .eq false .slice (.t 3) (.c (.nils)), none, []⟩]
def f170.r2 : List IOper := [
⟨some 2, .mv (.c (.nils)), none, []⟩]
def f170.r3 : List IOper := [
⟨some 5, .mkSlice 2 0 [] [], none, []⟩,
⟨some 6, .mv (.t 0), none, []⟩,
⟨some 7, .append 2 24 (.t 5) (.t 6), none, []⟩,
⟨some 2, .mv (.t 7), none, []⟩]
def f170 : IFn := ⟨1, 8, [.t 2], (.seq (.region f170.r0) (.seq (.seq (.region f170.r1) (.cond (.t 4) (.seq (.region f170.r2) .ret) .skip)) (.seq (.region f170.r3) .ret)))⟩
def f171.r0 : List IOper := [
⟨some 4, .mv (.c (.d (.str []))), none, []⟩]
def f171.r1 : List IOper := [
⟨some 7, .mv (.t 0), none, []⟩,
⟨some 8, .bin .eql (.t 7) (.c (.d (.str []))), none, []⟩,
⟨some 9, .mv (.t 8), none, []⟩,
⟨some 10, .mv (.t 1), some (9, false), []⟩,
⟨some 11, .bin .eql (.t 10) (.c (.d (.str []))), some (9, false), []⟩,
⟨some 12, .pick (.t 9) (.c (.d (.bool true))) (.t 11), none, []⟩]
def f171.r2 : List IOper := [
⟨some 13, .mv (.t 0), none, []⟩,
⟨some 4, .mv (.t 13), none, []⟩]
def f171.r3 : List IOper := [
⟨some 14, .mv (.t 1), none, []⟩,
⟨some 15, .len .str (.t 14), none, []⟩,
⟨some 16, .bin .eql (.t 15) (.c (.d (.int .i64 1))), none, []⟩,
⟨some 17, .mv (.t 16), none, []⟩,
⟨some 18, .mv (.t 1), some (17, true), []⟩,
⟨some 19, .idxS (.t 18) (.c (.d (.int .i64 0))), some (17, true), []⟩,
⟨some 20, .bin .lss (.t 19) (.c (.d (.int .u8 128))), some (17, true), []⟩,
⟨some 21, .pick (.t 17) (.t 20) (.c (.d (.bool false))), none, []⟩]
def f171.r4 : List IOper := [
⟨some 22, .mv (.t 0), none, []⟩,
⟨some 23, .mv (.t 1), none, []⟩,
⟨some 24, .idxS (.t 23) (.c (.d (.int .i64 0))), none, [1]⟩,
⟨some 25, .call 239 [(.t 22), (.t 24)], none, [0, 2]⟩,
⟨some 26, .mv (.t 1), none, []⟩,
⟨some 27, .idxS (.t 26) (.c (.d (.int .i64 0))), none, [4]⟩,
⟨some 28, .call 238 [(.t 25), (.t 27)], none, [3, 5, 3]⟩,
⟨some 4, .mv (.t 28), none, [6, 6, 0, 1, 2, 3, 4, 5, 6]⟩]
def f171.r5 : List IOper := [
⟨some 30, .mv (.t 1), none, []⟩,
⟨some 31, .call 240 [(.t 30)], none, []⟩,
⟨some 29, .mv (.t 31), none, []⟩,
⟨some 32, .ext (.t 29) 0, none, []⟩,
⟨some 33, .ext (.t 29) 1, none, []⟩,
⟨some 5, .alloc [.d (.bool false), .d (.bool false), .d (.bool false), .d (.bool false), .d (.bool false), .d (.bool false), .d (.bool false), .d (.bool false), .d (.bool false), .d (.bool false), .d (.bool false), .d (.bool false), .d (.bool false), .d (.bool false), .d (.bool false), .d (.bool false), .d (.bool false), .d (.bool false), .d (.bool false), .d (.bool false), .d (.bool false), .d (.bool false), .d (.bool false), .d (.bool false), .d (.bool false), .d (.bool false), .d (.bool false), .d (.bool false), .d (.bool false), .d (.bool false), .d (.bool false), .d (.bool false), .d (.bool false), .d (.bool false), .d (.bool false), .d (.bool false), .d (.bool false), .d (.bool false), .d (.bool false), .d (.bool false), .d (.bool false), .d (.bool false), .d (.bool false), .d (.bool false), .d (.bool false), .d (.bool false), .d (.bool false), .d (.bool false), .d (.bool false), .d (.bool false), .d (.bool false), .d (.bool false), .d (.bool false), .d (.bool false), .d (.bool false), .d (.bool false), .d (.bool false), .d (.bool false), .d (.bool false), .d (.bool false), .d (.bool false), .d (.bool false), .d (.bool false), .d (.bool false), .d (.bool false), .d (.bool false), .d (.bool false), .d (.bool false), .d (.bool false), .d (.bool false), .d (.bool false), .d (.bool false), .d (.bool false), .d (.bool false), .d (.bool false), .d (.bool false), .d (.bool false), .d (.bool false), .d (.bool false), .d (.bool false), .d (.bool false), .d (.bool false), .d (.bool false), .d (.bool false), .d (.bool false), .d (.bool false), .d (.bool false), .d (.bool false), .d (.bool false), .d (.bool false), .d (.bool false), .d (.bool false), .d (.bool false), .d (.bool false), .d (.bool false), .d (.bool false), .d (.bool false), .d (.bool false), .d (.bool false), .d (.bool false), .d (.bool false), .d (.bool false), .d (.bool false), .d (.bool false), .d (.bool false), .d (.bool false), .d (.bool false), .d (.bool false), .d (.bool false), .d (.bool false), .d (.bool false), .d (.bool false), .d (.bool false), .d (.bool false), .d (.bool false), .d (.bool false), .d (.bool false), .d (.bool false), .d (.bool false), .d (.bool false), .d (.bool false), .d (.bool false), .d (.bool false), .d (.bool false), .d (.bool false), .d (.bool false), .d (.bool false), .d (.bool false), .d (.bool false), .d (.bool false), .d (.bool false), .d (.bool false), .d (.bool false), .d (.bool false), .d (.bool false), .d (.bool false), .d (.bool false), .d (.bool false), .d (.bool false), .d (.bool false), .d (.bool false), .d (.bool false), .d (.bool false), .d (.bool false), .d (.bool false), .d (.bool false), .d (.bool false), .d (.bool false), .d (.bool false), .d (.bool false), .d (.bool false), .d (.bool false), .d (.bool false), .d (.bool false), .d (.bool false), .d (.bool false), .d (.bool false), .d (.bool false), .d (.bool false), .d (.bool false), .d (.bool false), .d (.bool false), .d (.bool false), .d (.bool false), .d (.bool false), .d (.bool false), .d (.bool false), .d (.bool false), .d (.bool false), .d (.bool false), .d (.bool false), .d (.bool false), .d (.bool false), .d (.bool false), .d (.bool false), .d (.bool false), .d (.bool false), .d (.bool false), .d (.bool false), .d (.bool false), .d (.bool false), .d (.bool false), .d (.bool false), .d (.bool false), .d (.bool false), .d (.bool false), .d (.bool false), .d (.bool false), .d (.bool false), .d (.bool false), .d (.bool false), .d (.bool false), .d (.bool false), .d (.bool false), .d (.bool false), .d (.bool false), .d (.bool false), .d (.bool false), .d (.bool false), .d (.bool false), .d (.bool false), .d (.bool false), .d (.bool false), .d (.bool false), .d (.bool false), .d (.bool false), .d (.bool false), .d (.bool false), .d (.bool false), .d (.bool false), .d (.bool false), .d (.bool false), .d (.bool false), .d (.bool false), .d (.bool false), .d (.bool false), .d (.bool false), .d (.bool false), .d (.bool false), .d (.bool false), .d (.bool false), .d (.bool false), .d (.bool false), .d (.bool false), .d (.bool false), .d (.bool false), .d (.bool false), .d (.bool false), .d (.bool false), .d (.bool false), .d (.bool false), .d (.bool false), .d (.bool false), .d (.bool false), .d (.bool false), .d (.bool false), .d (.bool false), .d (.bool false), .d (.bool false), .d (.bool false), .d (.bool false), .d (.bool false), .d (.bool false), .d (.bool false), .d (.bool false), .d (.bool false), .d (.bool false), .d (.bool false), .d (.bool false), .d (.bool false), .d (.bool false), .d (.bool false), .d (.bool false), .d (.bool false), .d (.bool false), .d (.bool false)], none, []⟩,
⟨none, .store 256 (.t 5) (.t 32), none, []⟩,
⟨some 6, .mv (.t 33), none, []⟩]
def f171.r6 : List IOper := [
⟨some 34, .mv (.t 6), none, []⟩]
def f171.r7 : List IOper := [
⟨some 35, .mv (.t 0), none, []⟩,
⟨some 36, .call 242 [(.t 35), (.t 5)], none, []⟩,
⟨some 37, .call 241 [(.t 36), (.t 5)], none, []⟩,
⟨some 4, .mv (.t 37), none, []⟩]
def f171.r8 : List IOper := [
⟨some 38, .mv (.t 0), none, []⟩,
⟨some 39, .mv (.t 1), none, []⟩,
⟨some 40, .call 244 [(.t 38), (.t 39)], none, []⟩,
⟨some 41, .mv (.t 1), none, []⟩,
⟨some 42, .call 243 [(.t 40), (.t 41)], none, []⟩,
⟨some 4, .mv (.t 42), none, []⟩]
def f171 : IFn := ⟨2, 43, [.t 4], (.seq (.region f171.r0) (.seq (.seq (.region f171.r1) (.cond (.t 12) (.seq (.region f171.r2) .ret) .skip)) (.seq (.seq (.region f171.r3) (.cond (.t 21) (.seq (.draw f171.r4) .ret) .skip)) (.seq (.seq (.region f171.r5) (.seq (.region f171.r6) (.cond (.t 34) (.seq (.region f171.r7) .ret) .skip))) (.seq (.region f171.r8) .ret)))))⟩
def f174.r0 : List IOper := [
⟨some 4, .mv (.c (.d (.int .i64 0))), none, []⟩]
def f174.r1 : List IOper := [
⟨some 6, .mv (.t 0), none, []⟩,
⟨some 7, .len .slice (.t 6), none, []⟩,
⟨some 8, .mv (.c (.d (.int .i64 0))), none, []⟩]
def f174.r2 : List IOper := [
⟨some 9, .bin .lss (.t 8) (.t 7), none, []⟩]
def f174.r3 : List IOper := [
⟨some 10, .mv (.t 8), none, []⟩,
⟨some 5, .mv (.t 10), none, []⟩]
def f174.r4 : List IOper := [
⟨some 11, .mv (.t 1), none, []⟩,
⟨some 12, .mv (.t 0), none, []⟩,
⟨some 13, .mv (.t 5), none, []⟩,
⟨some 14, .iaddr 2 (.t 12) (.t 13), none, []⟩,
⟨some 15, .load 2 true (.t 14), none, []⟩,
⟨some 16, .callv (.t 11) [(.t 15)], none, []⟩]
def f174.r5 : List IOper := [
⟨some 17, .mv (.t 5), none, []⟩,
⟨some 4, .mv (.t 17), none, []⟩]
def f174.r6 : List IOper := [
⟨some 18, .bin .add (.t 8) (.c (.d (.int .i64 1))), none, []⟩,
⟨some 8, .mv (.t 18), none, []⟩]
def f174.l7 : IR := (.seq (.region f174.r2) (.seq (.cond (.t 9) .skip (.exit 0)) (.seq (.block 1 (.seq (.region f174.r3) (.seq (.region f174.r4) (.cond (.t 16) (.seq (.region f174.r5) .ret) .skip)))) (.region f174.r6))))
def f174.r8 : List IOper := [
⟨some 4, .mv (.c (.d (.int .i64 (-1)))), none, []⟩]
def f174 : IFn := ⟨2, 19, [.t 4], (.seq (.region f174.r0) (.seq (.seq (.region f174.r1) (.block 0 (.loop f174.l7))) (.seq (.region f174.r8) .ret)))⟩
def f177.r0 : List IOper := [
⟨some 2, .mv (.c (.d (.bool false))), none, []⟩]
def f177.r1 : List IOper := [
⟨some 3, .mv (.t 0), none, []⟩,
⟨some 4, .bin .geq (.t 3) (.c (.d (.int .u8 48))), none, []⟩,
⟨some 5, .mv (.t 4), none, []⟩,
⟨some 6, .mv (.t 0), some (5, true), []⟩,
⟨some 7, .bin .leq (.t 6) (.c (.d (.int .u8 57))), some (5, true), []⟩,
⟨some 8, .pick (.t 5) (.t 7) (.c (.d (.bool false))), none, []⟩,
⟨some 2, .mv (.t 8), none, []⟩]
def f177 : IFn := ⟨1, 9, [.t 2], (.seq (.region f177.r0) (.seq (.region f177.r1) .ret))⟩
def f178.r0 : List IOper := [
⟨some 2, .mv (.c (.d (.bool false))), none, []⟩]
def f178.r1 : List IOper := [
⟨some 3, .mv (.t 0), none, []⟩,
⟨some 4, .bin .geq (.t 3) (.c (.d (.int .u8 97))), none, []⟩,
⟨some 5, .mv (.t 4), none, []⟩,
⟨some 6, .mv (.t 0), some (5, true), []⟩,
⟨some 7, .bin .leq (.t 6) (.c (.d (.int .u8 122))), some (5, true), []⟩,
⟨some 8, .pick (.t 5) (.t 7) (.c (.d (.bool false))), none, []⟩,
⟨some 2, .mv (.t 8), none, []⟩]
def f178 : IFn := ⟨1, 9, [.t 2], (.seq (.region f178.r0) (.seq (.region f178.r1) .ret))⟩
def f179.r0 : List IOper := [
⟨some 6, .mv (.c (.d (.bool false))), none, []⟩]
def f179.r1 : List IOper := [
⟨some 10, .mv (.t 0), none, []⟩,
⟨some 11, .len .slice (.t 10), none, []⟩,
⟨some 12, .mv (.t 1), none, []⟩,
⟨some 13, .len .slice (.t 12), none, []⟩,
⟨some 14, .bin .neq (.t 11) (.t 13), none, []⟩]
def f179.r2 : List IOper := [
⟨some 6, .mv (.c (.d (.bool false))), none, []⟩]
def f179.r3 : List IOper := [
⟨some 15, .mv (.t 0), none, []⟩,
⟨some 16, .len .slice (.t 15), none, []⟩,
⟨some 17, .mv (.c (.d (.int .i64 0))), none, []⟩]
def f179.r4 : List IOper := [
⟨some 18, .bin .lss (.t 17) (.t 16), none, []⟩]
def f179.r5 : List IOper := [
⟨some 19, .mv (.t 17), none, []⟩,
⟨some 20, .iaddr 2 (.t 15) (.t 17), none, []⟩,
⟨some 21, .load 2 true (.t 20), none, []⟩,
⟨some 8, .alloc [.d (.int .i64 0), .nils], none, []⟩,
⟨some 7, .mv (.t 19), none, []⟩,
⟨none, .store 2 (.t 8) (.t 21), none, []⟩]
def f179.r6 : List IOper := [
⟨some 22, .mv (.t 1), none, []⟩,
⟨some 23, .mv (.t 7), none, []⟩,
⟨some 24, .iaddr 2 (.t 22) (.t 23), none, []⟩,
⟨some 25, .load 2 true (.t 24), none, []⟩,
⟨some 9, .alloc [.d (.int .i64 0), .nils], none, []⟩,
⟨none, .store 2 (.t 9) (.t 25), none, []⟩]
def f179.r7 : List IOper := [
⟨some 26, .mv (.t 2), none, []⟩,
⟨some 27, .load 2 true (.t 8), none, []⟩,
⟨some 28, .load 2 true (.t 9), none, []⟩,
⟨some 29, .callv (.t 26) [(.t 27), (.t 28)], none, []⟩,
⟨some 30, .un .not (.t 29), none, []⟩]
def f179.r8 : List IOper := [
⟨some 6, .mv (.c (.d (.bool false))), none, []⟩]
def f179.r9 : List IOper := [
⟨some 31, .bin .add (.t 17) (.c (.d (.int .i64 1))), none, []⟩,
⟨some 17, .mv (.t 31), none, []⟩]
def f179.l10 : IR := (.seq (.region f179.r4) (.seq (.cond (.t 18) .skip (.exit 0)) (.seq (.block 1 (.seq (.region f179.r5) (.seq (.region f179.r6) (.seq (.region f179.r7) (.cond (.t 30) (.seq (.region f179.r8) .ret) .skip))))) (.region f179.r9))))
def f179.r11 : List IOper := [
⟨some 6, .mv (.c (.d (.bool true))), none, []⟩]
def f179 : IFn := ⟨3, 32, [.t 6], (.seq (.region f179.r0) (.seq (.seq (.region f179.r1) (.cond (.t 14) (.seq (.region f179.r2) .ret) .skip)) (.seq (.seq (.region f179.r3) (.block 0 (.loop f179.l10))) (.seq (.region f179.r11) .ret))))⟩
def f180.r0 : List IOper := [
⟨some 2, .box 2 (.t 0), none, []⟩,
⟨some 3, .box 2 (.t 1), none, []⟩,
⟨some 4, .mv (.c (.d (.bool false))), none, []⟩]
def f180.r1 : List IOper := [
⟨some 5, .faddr 0 1 (.t 2), none, []⟩,
⟨some 6, .load 1 false (.t 5), none, []⟩,
⟨some 7, .faddr 0 1 (.t 3), none, []⟩,
⟨some 8, .load 1 false (.t 7), none, []⟩,
⟨some 9, .bin .eql (.t 6) (.t 8), none, []⟩,
⟨some 10, .mv (.t 9), none, []⟩,
⟨some 11, .faddr 1 1 (.t 2), some (10, true), []⟩,
⟨some 12, .load 1 false (.t 11), some (10, true), []⟩,
⟨some 13, .faddr 1 1 (.t 3), some (10, true), []⟩,
⟨some 14, .load 1 false (.t 13), some (10, true), []⟩,
⟨some 15, .call 249 [(.t 12), (.t 14)], some (10, true), []⟩,
⟨some 16, .pick (.t 10) (.t 15) (.c (.d (.bool false))), none, []⟩,
⟨some 4, .mv (.t 16), none, []⟩]
def f180 : IFn := ⟨2, 17, [.t 4], (.seq (.region f180.r0) (.seq (.region f180.r1) .ret))⟩
def f206.r0 : List IOper := [
⟨some 2, .alloc [.d (.int .i64 0), .nils], none, []⟩,
⟨some 3, .mv (.c (.d (.int .i64 0))), none, []⟩]
def f206.r1 : List IOper := [
⟨some 10, .mv (.t 0), none, []⟩,
⟨some 11, .nilchk (.t 10), none, []⟩,
⟨some 12, .faddr 0 1 (.t 11), none, []⟩,
⟨some 13, .load 1 false (.t 12), none, []⟩,
⟨some 14, .build [.d (.int .i64 0), .nils] [(0, 1, (.t 13))], none, []⟩,
⟨some 4, .alloc [.d (.int .i64 0), .nils], none, []⟩,
⟨none, .store 2 (.t 4) (.t 14), none, []⟩]
def f206.r2 : List IOper := [
⟨some 5, .mv (.c (.nils)), none, []⟩]
def f206.r3 : List IOper := [
⟨some 15, .mv (.t 0), none, []⟩,
⟨some 16, .nilchk (.t 15), none, []⟩,
⟨some 17, .faddr 1 1 (.t 16), none, []⟩,
⟨some 18, .load 1 false (.t 17), none, []⟩,
⟨some 19, .range true (.t 18), none, []⟩]
def f206.r4 : List IOper := [
⟨some 20, .nextM (.t 19), none, []⟩,
⟨some 21, .ext (.t 20) 0, none, []⟩]
def f206.r5 : List IOper := [
⟨some 22, .entry (.t 19), none, []⟩,
⟨some 23, .ext (.t 22) 0, none, []⟩,
⟨some 24, .ext (.t 22) 1, none, []⟩,
⟨some 6, .mv (.t 23), none, []⟩,
⟨some 7, .mv (.t 24), none, []⟩]
def f206.r6 : List IOper := [
⟨some 25, .mv (.t 7), none, []⟩,
⟨some 26, .bin .neq (.t 25) (.c (.d (.int .i64 0))), none, []⟩]
def f206.r7 : List IOper := [
⟨some 27, .mv (.t 5), none, []⟩,
⟨some 28, .mv (.t 6), none, []⟩,
⟨some 29, .mkSlice 1 1 [.d (.str [])] [(0, 1, (.t 28))], none, []⟩,
⟨some 30, .append 1 16 (.t 27) (.t 29), none, []⟩,
⟨some 5, .mv (.t 30), none, []⟩]
def f206.l8 : IR := (.seq (.region f206.r4) (.seq (.cond (.t 21) .skip (.exit 0)) (.block 1 (.seq (.region f206.r5) (.seq (.region f206.r6) (.cond (.t 26) (.region f206.r7) .skip))))))
def f206.r9 : List IOper := [
⟨some 31, .mv (.t 5), none, []⟩,
⟨some 32, .call 104 [(.t 31)], none, []⟩]
def f206.r10 : List IOper := [
⟨some 33, .mv (.t 5), none, []⟩,
⟨some 34, .len .slice (.t 33), none, []⟩,
⟨some 35, .mv (.c (.d (.int .i64 0))), none, []⟩]
def f206.r11 : List IOper := [
⟨some 36, .bin .lss (.t 35) (.t 34), none, []⟩]
def f206.r12 : List IOper := [
⟨some 37, .iaddr 1 (.t 33) (.t 35), none, []⟩,
⟨some 38, .load 1 false (.t 37), none, []⟩,
⟨some 9, .mv (.t 38), none, []⟩]
def f206.r13 : List IOper := [
⟨some 39, .faddr 1 1 (.t 4), none, []⟩,
⟨some 40, .load 1 false (.t 39), none, [0]⟩,
⟨some 41, .mv (.t 9), none, []⟩,
⟨some 42, .mv (.t 0), none, []⟩,
⟨some 43, .nilchk (.t 42), none, [3]⟩,
⟨some 44, .faddr 1 1 (.t 43), none, [4]⟩,
⟨some 45, .load 1 false (.t 44), none, [5]⟩,
⟨some 46, .mv (.t 9), none, []⟩,
⟨some 47, .lookup .str (.d (.int .i64 0)) false (.t 45) (.t 46), none, [6, 7]⟩,
⟨some 48, .build [.d (.str []), .d (.int .i64 0)] [(0, 1, (.t 41)), (1, 1, (.t 47))], none, [2, 8]⟩,
⟨some 49, .mkSlice 2 1 [.d (.str []), .d (.int .i64 0)] [(0, 2, (.t 48))], none, [9]⟩,
⟨some 50, .append 2 24 (.t 40) (.t 49), none, [1, 10]⟩,
⟨some 51, .faddr 1 1 (.t 4), none, [0, 1, 2, 3, 4, 5, 6, 7, 8, 9, 10, 11]⟩,
⟨none, .store 1 (.t 51) (.t 50), none, [12, 11, 11, 0, 1, 2, 3, 4, 5, 6, 7, 8, 9, 10, 11]⟩]
def f206.r14 : List IOper := [
⟨some 52, .bin .add (.t 35) (.c (.d (.int .i64 1))), none, []⟩,
⟨some 35, .mv (.t 52), none, []⟩]
def f206.l15 : IR := (.seq (.region f206.r11) (.seq (.cond (.t 36) .skip (.exit 2)) (.seq (.block 3 (.seq (.region f206.r12) (.draw f206.r13))) (.region f206.r14))))
def f206.r16 : List IOper := [
⟨some 53, .load 2 true (.t 4), none, []⟩,
⟨some 54, .call 89 [(.t 53)], none, []⟩,
⟨some 55, .un .not (.t 54), none, []⟩]
def f206.r17 : List IOper := [
⟨some 56, .build [.d (.int .i64 0), .nils] [], none, []⟩,
⟨none, .store 2 (.t 2) (.t 56), none, []⟩,
⟨some 3, .mv (.c (.d (.int .i64 3))), none, []⟩]
def f206.r18 : List IOper := [
⟨some 57, .load 2 true (.t 4), none, []⟩,
⟨none, .store 2 (.t 2) (.t 57), none, []⟩,
⟨some 3, .mv (.c (.d (.int .i64 0))), none, []⟩]
def f206 : IFn := ⟨1, 58, [.cell 2 2 true, .t 3], (.seq (.region f206.r0) (.seq (.region f206.r1) (.seq (.region f206.r2) (.seq (.seq (.region f206.r3) (.block 0 (.loop f206.l8))) (.seq (.region f206.r9) (.seq (.seq (.region f206.r10) (.block 2 (.loop f206.l15))) (.seq (.seq (.region f206.r16) (.cond (.t 55) (.seq (.region f206.r17) .ret) .skip)) (.seq (.region f206.r18) .ret))))))))⟩
def f212.r0 : List IOper := [
⟨some 8, .mv (.t 1), none, []⟩,
⟨some 9, .bin .add (.t 8) (.c (.d (.int .i64 1))), none, []⟩,
⟨some 6, .mv (.t 9), none, []⟩]
def f212.r1 : List IOper := [
⟨some 10, .mv (.t 6), none, []⟩,
⟨some 11, .mv (.t 2), none, []⟩,
⟨some 12, .bin .lss (.t 10) (.t 11), none, []⟩]
def f212.r2 : List IOper := [
⟨some 15, .mv (.t 6), none, []⟩,
⟨some 7, .mv (.t 15), none, []⟩]
def f212.r3 : List IOper := [
⟨some 16, .mv (.t 7), none, []⟩,
⟨some 17, .mv (.t 1), none, []⟩,
⟨some 18, .bin .gtr (.t 16) (.t 17), none, [0, 1]⟩,
⟨some 19, .mv (.t 18), none, [2]⟩,
⟨some 20, .mv (.t 0), some (19, true), [3]⟩,
⟨some 21, .mv (.t 7), some (19, true), [3]⟩,
⟨some 22, .iaddr 1 (.t 20) (.t 21), some (19, true), [4, 5, 3]⟩,
⟨some 23, .load 1 false (.t 22), some (19, true), [6, 3]⟩,
⟨some 24, .mv (.t 0), some (19, true), [3]⟩,
⟨some 25, .mv (.t 7), some (19, true), [3]⟩,
⟨some 26, .bin .sub (.t 25) (.c (.d (.int .i64 1))), some (19, true), [9, 3]⟩,
⟨some 27, .iaddr 1 (.t 24) (.t 26), some (19, true), [8, 10, 3]⟩,
⟨some 28, .load 1 false (.t 27), some (19, true), [11, 3]⟩,
⟨some 29, .call 218 [(.t 23), (.t 28)], some (19, true), [7, 12, 3, 3]⟩,
⟨some 30, .pick (.t 19) (.t 29) (.c (.d (.bool false))), none, [3, 13]⟩]
def f212.r4 : List IOper := [
⟨some 33, .mv (.t 0), none, []⟩,
⟨some 34, .mv (.t 7), none, []⟩,
⟨some 35, .mv (.t 0), none, []⟩,
⟨some 36, .mv (.t 7), none, []⟩,
⟨some 37, .bin .sub (.t 36) (.c (.d (.int .i64 1))), none, [3]⟩,
⟨some 38, .mv (.t 0), none, []⟩,
⟨some 39, .mv (.t 7), none, []⟩,
⟨some 40, .bin .sub (.t 39) (.c (.d (.int .i64 1))), none, [6]⟩,
⟨some 41, .iaddr 1 (.t 38) (.t 40), none, [5, 7]⟩,
⟨some 42, .load 1 false (.t 41), none, [8]⟩,
⟨some 43, .mv (.t 0), none, []⟩,
⟨some 44, .mv (.t 7), none, []⟩,
⟨some 45, .iaddr 1 (.t 43) (.t 44), none, [10, 11]⟩,
⟨some 46, .load 1 false (.t 45), none, [12]⟩,
⟨some 47, .iaddr 1 (.t 33) (.t 34), none, [0, 1, 0, 1, 5, 6, 7, 8, 9, 13]⟩,
⟨none, .store 1 (.t 47) (.t 42), none, [14, 9, 0, 1, 5, 6, 7, 8, 9, 13]⟩,
⟨some 48, .iaddr 1 (.t 35) (.t 37), none, [2, 4, 0, 1, 2, 3, 4, 5, 6, 7, 8, 9, 10, 11, 12, 13, 14, 15]⟩,
⟨none, .store 1 (.t 48) (.t 46), none, [16, 13, 15, 0, 1, 2, 3, 4, 5, 6, 7, 8, 9, 10, 11, 12, 13, 14, 15]⟩]
def f212.r5 : List IOper := [
⟨some 31, .mv (.t 7), none, []⟩,
⟨some 32, .bin .sub (.t 31) (.c (.d (.int .i64 1))), none, []⟩,
⟨some 7, .mv (.t 32), none, []⟩]
def f212.l6 : IR := (.seq (.seq (.draw f212.r3) (.cond (.t 30) .skip (.exit 2))) (.seq (.block 3 (.draw f212.r4)) (.region f212.r5)))
def f212.r7 : List IOper := [
⟨some 13, .mv (.t 6), none, []⟩,
⟨some 14, .bin .add (.t 13) (.c (.d (.int .i64 1))), none, []⟩,
⟨some 6, .mv (.t 14), none, []⟩]
def f212.l8 : IR := (.seq (.seq (.region f212.r1) (.cond (.t 12) .skip (.exit 0))) (.seq (.block 1 (.seq (.region f212.r2) (.block 2 (.loop f212.l6)))) (.region f212.r7)))
def f212 : IFn := ⟨3, 49, [], (.seq (.region f212.r0) (.block 0 (.loop f212.l8)))⟩
def f222.r0 : List IOper := [
⟨some 2, .mv (.c (.d (.int .i64 0))), none, []⟩]
def f222.r1 : List IOper := [
⟨some 3, .mv (.t 0), none, []⟩,
⟨some 4, .bin .geq (.t 3) (.c (.d (.int .u64 4294967296))), none, []⟩]
def f222.r2 : List IOper := [
⟨some 5, .mv (.t 0), none, []⟩,
⟨some 6, .bin .shr (.t 5) (.c (.d (.int .u64 32))), none, []⟩,
⟨some 0, .mv (.t 6), none, []⟩]
def f222.r3 : List IOper := [
⟨some 2, .mv (.c (.d (.int .i64 32))), none, []⟩]
def f222.r4 : List IOper := [
⟨some 7, .mv (.t 0), none, []⟩,
⟨some 8, .bin .geq (.t 7) (.c (.d (.int .u64 65536))), none, []⟩]
def f222.r5 : List IOper := [
⟨some 9, .mv (.t 0), none, []⟩,
⟨some 10, .bin .shr (.t 9) (.c (.d (.int .u64 16))), none, []⟩,
⟨some 0, .mv (.t 10), none, []⟩]
def f222.r6 : List IOper := [
⟨some 11, .mv (.t 2), none, []⟩,
⟨some 12, .bin .add (.t 11) (.c (.d (.int .i64 16))), none, []⟩,
⟨some 2, .mv (.t 12), none, []⟩]
def f222.r7 : List IOper := [
⟨some 13, .mv (.t 0), none, []⟩,
⟨some 14, .bin .geq (.t 13) (.c (.d (.int .u64 256))), none, []⟩]
def f222.r8 : List IOper := [
⟨some 15, .mv (.t 0), none, []⟩,
⟨some 16, .bin .shr (.t 15) (.c (.d (.int .u64 8))), none, []⟩,
⟨some 0, .mv (.t 16), none, []⟩]
def f222.r9 : List IOper := [
⟨some 17, .mv (.t 2), none, []⟩,
⟨some 18, .bin .add (.t 17) (.c (.d (.int .i64 8))), none, []⟩,
⟨some 2, .mv (.t 18), none, []⟩]
def f222.r10 : List IOper := [
⟨some 19, .mv (.t 2), none, []⟩,
⟨some 20, .mv (.t 0), none, []⟩,
⟨some 21, .conv .u8 (.t 20), none, []⟩,
⟨some 22, .idxS (.c (.d (.str [0, 1, 2, 2, 3, 3, 3, 3, 4, 4, 4, 4, 4, 4, 4, 4, 5, 5, 5, 5, 5, 5, 5, 5, 5, 5, 5, 5, 5, 5, 5, 5, 6, 6, 6, 6, 6, 6, 6, 6, 6, 6, 6, 6, 6, 6, 6, 6, 6, 6, 6, 6, 6, 6, 6, 6, 6, 6, 6, 6, 6, 6, 6, 6, 7, 7, 7, 7, 7, 7, 7, 7, 7, 7, 7, 7, 7, 7, 7, 7, 7, 7, 7, 7, 7, 7, 7, 7, 7, 7, 7, 7, 7, 7, 7, 7, 7, 7, 7, 7, 7, 7, 7, 7, 7, 7, 7, 7, 7, 7, 7, 7, 7, 7, 7, 7, 7, 7, 7, 7, 7, 7, 7, 7, 7, 7, 7, 7, 8, 8, 8, 8, 8, 8, 8, 8, 8, 8, 8, 8, 8, 8, 8, 8, 8, 8, 8, 8, 8, 8, 8, 8, 8, 8, 8, 8, 8, 8, 8, 8, 8, 8, 8, 8, 8, 8, 8, 8, 8, 8, 8, 8, 8, 8, 8, 8, 8, 8, 8, 8, 8, 8, 8, 8, 8, 8, 8, 8, 8, 8, 8, 8, 8, 8, 8, 8, 8, 8, 8, 8, 8, 8, 8, 8, 8, 8, 8, 8, 8, 8, 8, 8, 8, 8, 8, 8, 8, 8, 8, 8, 8, 8, 8, 8, 8, 8, 8, 8, 8, 8, 8, 8, 8, 8, 8, 8, 8, 8, 8, 8, 8, 8, 8, 8, 8, 8, 8, 8, 8, 8, 8, 8, 8, 8, 8, 8]))) (.t 21), none, []⟩,
⟨some 23, .conv .i64 (.t 22), none, []⟩,
⟨some 24, .bin .add (.t 19) (.t 23), none, []⟩,
⟨some 2, .mv (.t 24), none, []⟩]
def f222 : IFn := ⟨1, 25, [.t 2], (.seq (.region f222.r0) (.seq (.seq (.region f222.r1) (.cond (.t 4) (.seq (.region f222.r2) (.region f222.r3)) .skip)) (.seq (.seq (.region f222.r4) (.cond (.t 8) (.seq (.region f222.r5) (.region f222.r6)) .skip)) (.seq (.seq (.region f222.r7) (.cond (.t 14) (.seq (.region f222.r8) (.region f222.r9)) .skip)) (.seq (.region f222.r10) .ret)))))⟩
def f241.r0 : List IOper := [
⟨some 4, .mv (.c (.d (.str []))), none, []⟩]
def f241.r1 : List IOper := [
⟨some 5, .mv (.t 0), none, []⟩,
⟨some 6, .len .str (.t 5), none, []⟩,
⟨some 7, .bin .gtr (.t 6) (.c (.d (.int .i64 0))), none, []⟩]
def f241.r2 : List IOper := [
⟨some 8, .mv (.t 1), none, []⟩,
⟨some 9, .mv (.t 0), none, []⟩,
⟨some 10, .idxS (.t 9) (.c (.d (.int .i64 0))), none, []⟩,
⟨some 11, .call 282 [(.t 8), (.t 10)], none, []⟩,
⟨some 12, .un .not (.t 11), none, []⟩]
def f241.r3 : List IOper := [
⟨some 13, .mv (.t 0), none, []⟩,
⟨some 14, .sslice (.t 13) (some (.c (.d (.int .i64 1)))) none, none, []⟩,
⟨some 0, .mv (.t 14), none, []⟩]
def f241.l4 : IR := (.seq (.seq (.region f241.r1) (.cond (.t 7) .skip (.exit 0))) (.block 1 (.seq (.seq (.region f241.r2) (.cond (.t 12) (.exit 0) .skip)) (.region f241.r3))))
def f241.r5 : List IOper := [
⟨some 15, .mv (.t 0), none, []⟩,
⟨some 4, .mv (.t 15), none, []⟩]
def f241 : IFn := ⟨2, 16, [.t 4], (.seq (.region f241.r0) (.seq (.block 0 (.loop f241.l4)) (.seq (.region f241.r5) .ret)))⟩
def f242.r0 : List IOper := [
⟨some 4, .mv (.c (.d (.str []))), none, []⟩]
def f242.r1 : List IOper := [
⟨some 5, .mv (.t 0), none, []⟩,
⟨some 6, .len .str (.t 5), none, []⟩,
⟨some 7, .bin .gtr (.t 6) (.c (.d (.int .i64 0))), none, []⟩]
def f242.r2 : List IOper := [
⟨some 8, .mv (.t 1), none, []⟩,
⟨some 9, .mv (.t 0), none, []⟩,
⟨some 10, .mv (.t 0), none, []⟩,
⟨some 11, .len .str (.t 10), none, []⟩,
⟨some 12, .bin .sub (.t 11) (.c (.d (.int .i64 1))), none, []⟩,
⟨some 13, .idxS (.t 9) (.t 12), none, []⟩,
⟨some 14, .call 282 [(.t 8), (.t 13)], none, []⟩,
⟨some 15, .un .not (.t 14), none, []⟩]
def f242.r3 : List IOper := [
⟨some 16, .mv (.t 0), none, []⟩,
⟨some 17, .mv (.t 0), none, []⟩,
⟨some 18, .len .str (.t 17), none, []⟩,
⟨some 19, .bin .sub (.t 18) (.c (.d (.int .i64 1))), none, []⟩,
⟨some 20, .sslice (.t 16) none (some (.t 19)), none, []⟩,
⟨some 0, .mv (.t 20), none, []⟩]
def f242.l4 : IR := (.seq (.seq (.region f242.r1) (.cond (.t 7) .skip (.exit 0))) (.block 1 (.seq (.seq (.region f242.r2) (.cond (.t 15) (.exit 0) .skip)) (.region f242.r3))))
def f242.r5 : List IOper := [
⟨some 21, .mv (.t 0), none, []⟩,
⟨some 4, .mv (.t 21), none, []⟩]
def f242 : IFn := ⟨2, 22, [.t 4], (.seq (.region f242.r0) (.seq (.block 0 (.loop f242.l4)) (.seq (.region f242.r5) .ret)))⟩
def f248.r0 : List IOper := [
⟨some 4, .mv (.c (.nils)), none, []⟩]
def f248.r1 : List IOper := [
⟨some 5, .mv (.t 1), none, []⟩,
⟨some 6, .bin .lss (.t 5) (.c (.d (.int .i64 0))), none, []⟩]
def f248.r2 : List IOper := [
⟨some 7, .mkiface 9 (.c (.d (.str [99, 97, 110, 110, 111, 116, 32, 98, 101, 32, 110, 101, 103, 97, 116, 105, 118, 101]))), none, []⟩,
⟨none, .bad, none, []⟩]
def f248.r3 : List IOper := [
⟨some 8, .mv (.t 1), none, []⟩,
⟨some 9, .mv (.t 0), none, []⟩,
⟨some 10, .cap (.t 9), none, []⟩,
⟨some 11, .mv (.t 0), none, []⟩,
⟨some 12, .len .slice (.t 11), none, []⟩,
⟨some 13, .bin .sub (.t 10) (.t 12), none, []⟩,
⟨some 14, .bin .sub (.t 8) (.t 13), none, []⟩,
⟨some 1, .mv (.t 14), none, []⟩]
def f248.r4 : List IOper := [
⟨some 15, .mv (.t 1), none, []⟩,
⟨some 16, .bin .gtr (.t 15) (.c (.d (.int .i64 0))), none, []⟩]
def f248.r5 : List IOper := [
⟨some 17, .mv (.t 0), none, []⟩,
⟨some 18, .mv (.t 0), none, []⟩,
⟨some 19, .cap (.t 18), none, []⟩,
⟨some 20, .lslice 2 (.t 17) none (some (.t 19)), none, []⟩,
⟨some 21, .mv (.t 1), none, []⟩,
⟨some 22, .appendN 2 32 [.d (.int .i64 0), .nils] (.t 20) (.t 21), none, []⟩,
⟨some 23, .mv (.t 0), none, []⟩,
⟨some 24, .len .slice (.t 23), none, []⟩,
⟨some 25, .lslice 2 (.t 22) none (some (.t 24)), none, []⟩,
⟨some 0, .mv (.t 25), none, []⟩]
def f248.r6 : List IOper := [
⟨some 26, .mv (.t 0), none, []⟩,
⟨some 4, .mv (.t 26), none, []⟩]
def f248 : IFn := ⟨2, 27, [.t 4], (.seq (.region f248.r0) (.seq (.seq (.region f248.r1) (.cond (.t 6) (.region f248.r2) .skip)) (.seq (.seq (.region f248.r3) (.seq (.region f248.r4) (.cond (.t 16) (.region f248.r5) .skip))) (.seq (.region f248.r6) .ret))))⟩
def f249.r0 : List IOper := [
⟨some 4, .mv (.c (.d (.bool false))), none, []⟩]
def f249.r1 : List IOper := [
⟨some 6, .mv (.t 0), none, []⟩,
⟨some 7, .len .slice (.t 6), none, []⟩,
⟨some 8, .mv (.t 1), none, []⟩,
⟨some 9, .len .slice (.t 8), none, []⟩,
⟨some 10, .bin .neq (.t 7) (.t 9), none, []⟩]
def f249.r2 : List IOper := [
⟨some 4, .mv (.c (.d (.bool false))), none, []⟩]
def f249.r3 : List IOper := [
⟨some 11, .mv (.t 0), none, []⟩,
⟨some 12, .len .slice (.t 11), none, []⟩,
⟨some 13, .mv (.c (.d (.int .i64 0))), none, []⟩]
def f249.r4 : List IOper := [
⟨some 14, .bin .lss (.t 13) (.t 12), none, []⟩]
def f249.r5 : List IOper := [
⟨some 15, .mv (.t 13), none, []⟩,
⟨some 5, .mv (.t 15), none, []⟩]
def f249.r6 : List IOper := [
⟨some 16, .mv (.t 0), none, []⟩,
⟨some 17, .mv (.t 5), none, []⟩,
⟨some 18, .iaddr 2 (.t 16) (.t 17), none, [0, 1]⟩,
⟨some 19, .load 2 true (.t 18), none, [2]⟩,
⟨some 20, .mv (.t 1), none, []⟩,
⟨some 21, .mv (.t 5), none, []⟩,
⟨some 22, .iaddr 2 (.t 20) (.t 21), none, [4, 5]⟩,
⟨some 23, .load 2 true (.t 22), none, [6]⟩,
⟨some 24, .eqS true [.str, .int] (.t 19) (.t 23), none, [3, 7]⟩]
def f249.r7 : List IOper := [
⟨some 4, .mv (.c (.d (.bool false))), none, []⟩]
def f249.r8 : List IOper := [
⟨some 25, .bin .add (.t 13) (.c (.d (.int .i64 1))), none, []⟩,
⟨some 13, .mv (.t 25), none, []⟩]
def f249.l9 : IR := (.seq (.region f249.r4) (.seq (.cond (.t 14) .skip (.exit 0)) (.seq (.block 1 (.seq (.region f249.r5) (.seq (.draw f249.r6) (.cond (.t 24) (.seq (.region f249.r7) .ret) .skip)))) (.region f249.r8))))
def f249.r10 : List IOper := [
⟨some 4, .mv (.c (.d (.bool true))), none, []⟩]
def f249 : IFn := ⟨2, 26, [.t 4], (.seq (.region f249.r0) (.seq (.seq (.region f249.r1) (.cond (.t 10) (.seq (.region f249.r2) .ret) .skip)) (.seq (.seq (.region f249.r3) (.block 0 (.loop f249.l9))) (.seq (.region f249.r10) .ret))))⟩

end Fw.X
