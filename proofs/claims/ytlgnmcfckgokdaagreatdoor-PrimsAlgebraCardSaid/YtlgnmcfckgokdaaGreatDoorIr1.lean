/- Code of the program's functions, as operations of the abstract machine. -/
import Derived.Test.YtlgnmcfckgokdaaGreatDoorFa
namespace Fw.X
open Go
def f118.r0 : List IOper := [
⟨some 2, .mv (.c (.nils)), none, []⟩,
⟨some 3, .mv (.c (.d (.str []))), none, []⟩,
⟨some 4, .mv (.c (.d (.bool false))), none, []⟩]
def f118.r1 : List IOper := [
⟨some 5, .mv (.t 0), none, []⟩]
def f118.r2 : List IOper := [
⟨some 7, .bin .eql (.t 5) (.c (.d (.str [97, 100, 100]))), none, []⟩,
⟨some 6, .mv (.t 7), none, []⟩]
def f118.r3 : List IOper := [
⟨some 8, .bin .eql (.t 5) (.c (.d (.str [115, 117, 98]))), none, []⟩,
⟨some 6, .mv (.t 8), none, []⟩]
def f118.r4 : List IOper := [
⟨some 9, .bin .eql (.t 5) (.c (.d (.str [109, 117, 108]))), none, []⟩,
⟨some 6, .mv (.t 9), none, []⟩]
def f118.r5 : List IOper := [
⟨some 10, .bin .eql (.t 5) (.c (.d (.str [100, 105, 118]))), none, []⟩,
⟨some 6, .mv (.t 10), none, []⟩]
def f118.r6 : List IOper := [
⟨some 11, .bin .eql (.t 5) (.c (.d (.str [109, 111, 100]))), none, []⟩,
⟨some 6, .mv (.t 11), none, []⟩]
def f118.r7 : List IOper := [
⟨some 12, .bin .eql (.t 5) (.c (.d (.str [109, 105, 110]))), none, []⟩,
⟨some 6, .mv (.t 12), none, []⟩]
def f118.r8 : List IOper := [
⟨some 13, .bin .eql (.t 5) (.c (.d (.str [109, 97, 120]))), none, []⟩,
⟨some 6, .mv (.t 13), none, []⟩]
def f118.r9 : List IOper := [
⟨some 14, .mkSlice 1 2 [.d (.str []), .d (.str [])] [(0, 1, (.c (.d (.str [105, 110, 116])))), (1, 1, (.c (.d (.str [105, 110, 116]))))], none, []⟩,
⟨some 2, .mv (.t 14), none, []⟩,
⟨some 3, .mv (.c (.d (.str [105, 110, 116]))), none, []⟩,
⟨some 4, .mv (.c (.d (.bool true))), none, []⟩]
def f118.r10 : List IOper := [
⟨some 16, .bin .eql (.t 5) (.c (.d (.str [110, 101, 103]))), none, []⟩,
⟨some 15, .mv (.t 16), none, []⟩]
def f118.r11 : List IOper := [
⟨some 17, .bin .eql (.t 5) (.c (.d (.str [97, 98, 115]))), none, []⟩,
⟨some 15, .mv (.t 17), none, []⟩]
def f118.r12 : List IOper := [
⟨some 18, .bin .eql (.t 5) (.c (.d (.str [115, 105, 103, 110]))), none, []⟩,
⟨some 15, .mv (.t 18), none, []⟩]
def f118.r13 : List IOper := [
⟨some 19, .mkSlice 1 1 [.d (.str [])] [(0, 1, (.c (.d (.str [105, 110, 116]))))], none, []⟩,
⟨some 2, .mv (.t 19), none, []⟩,
⟨some 3, .mv (.c (.d (.str [105, 110, 116]))), none, []⟩,
⟨some 4, .mv (.c (.d (.bool true))), none, []⟩]
def f118.r14 : List IOper := [
⟨some 21, .bin .eql (.t 5) (.c (.d (.str [108, 116]))), none, []⟩,
⟨some 20, .mv (.t 21), none, []⟩]
def f118.r15 : List IOper := [
⟨some 22, .bin .eql (.t 5) (.c (.d (.str [108, 101]))), none, []⟩,
⟨some 20, .mv (.t 22), none, []⟩]
def f118.r16 : List IOper := [
⟨some 23, .bin .eql (.t 5) (.c (.d (.str [103, 116]))), none, []⟩,
⟨some 20, .mv (.t 23), none, []⟩]
def f118.r17 : List IOper := [
⟨some 24, .bin .eql (.t 5) (.c (.d (.str [103, 101]))), none, []⟩,
⟨some 20, .mv (.t 24), none, []⟩]
def f118.r18 : List IOper := [
⟨some 25, .mkSlice 1 2 [.d (.str []), .d (.str [])] [(0, 1, (.c (.d (.str [105, 110, 116])))), (1, 1, (.c (.d (.str [105, 110, 116]))))], none, []⟩,
⟨some 2, .mv (.t 25), none, []⟩,
⟨some 3, .mv (.c (.d (.str [98, 111, 111, 108]))), none, []⟩,
⟨some 4, .mv (.c (.d (.bool true))), none, []⟩]
def f118.r19 : List IOper := [
⟨some 27, .bin .eql (.t 5) (.c (.d (.str [101, 113]))), none, []⟩,
⟨some 26, .mv (.t 27), none, []⟩]
def f118.r20 : List IOper := [
⟨some 28, .bin .eql (.t 5) (.c (.d (.str [110, 101]))), none, []⟩,
⟨some 26, .mv (.t 28), none, []⟩]
def f118.r21 : List IOper := [
⟨some 29, .mkSlice 1 2 [.d (.str []), .d (.str [])] [(0, 1, (.c (.d (.str [65])))), (1, 1, (.c (.d (.str [65]))))], none, []⟩,
⟨some 2, .mv (.t 29), none, []⟩,
⟨some 3, .mv (.c (.d (.str [98, 111, 111, 108]))), none, []⟩,
⟨some 4, .mv (.c (.d (.bool true))), none, []⟩]
def f118.r22 : List IOper := [
⟨some 31, .bin .eql (.t 5) (.c (.d (.str [97, 110, 100]))), none, []⟩,
⟨some 30, .mv (.t 31), none, []⟩]
def f118.r23 : List IOper := [
⟨some 32, .bin .eql (.t 5) (.c (.d (.str [111, 114]))), none, []⟩,
⟨some 30, .mv (.t 32), none, []⟩]
def f118.r24 : List IOper := [
⟨some 33, .bin .eql (.t 5) (.c (.d (.str [120, 111, 114]))), none, []⟩,
⟨some 30, .mv (.t 33), none, []⟩]
def f118.r25 : List IOper := [
⟨some 34, .mkSlice 1 2 [.d (.str []), .d (.str [])] [(0, 1, (.c (.d (.str [98, 111, 111, 108])))), (1, 1, (.c (.d (.str [98, 111, 111, 108]))))], none, []⟩,
⟨some 2, .mv (.t 34), none, []⟩,
⟨some 3, .mv (.c (.d (.str [98, 111, 111, 108]))), none, []⟩,
⟨some 4, .mv (.c (.d (.bool true))), none, []⟩]
def f118.r26 : List IOper := [
⟨some 36, .bin .eql (.t 5) (.c (.d (.str [110, 111, 116]))), none, []⟩,
⟨some 35, .mv (.t 36), none, []⟩]
def f118.r27 : List IOper := [
⟨some 37, .mkSlice 1 1 [.d (.str [])] [(0, 1, (.c (.d (.str [98, 111, 111, 108]))))], none, []⟩,
⟨some 2, .mv (.t 37), none, []⟩,
⟨some 3, .mv (.c (.d (.str [98, 111, 111, 108]))), none, []⟩,
⟨some 4, .mv (.c (.d (.bool true))), none, []⟩]
def f118.r28 : List IOper := [
⟨some 39, .bin .eql (.t 5) (.c (.d (.str [115, 101, 108, 101, 99, 116]))), none, []⟩,
⟨some 38, .mv (.t 39), none, []⟩]
def f118.r29 : List IOper := [
⟨some 40, .mkSlice 1 3 [.d (.str []), .d (.str []), .d (.str [])] [(0, 1, (.c (.d (.str [98, 111, 111, 108])))), (1, 1, (.c (.d (.str [65])))), (2, 1, (.c (.d (.str [65]))))], none, []⟩,
⟨some 2, .mv (.t 40), none, []⟩,
⟨some 3, .mv (.c (.d (.str [65]))), none, []⟩,
⟨some 4, .mv (.c (.d (.bool true))), none, []⟩]
def f118.r30 : List IOper := [
⟨some 42, .bin .eql (.t 5) (.c (.d (.str [116, 111, 105, 110, 116]))), none, []⟩,
⟨some 41, .mv (.t 42), none, []⟩]
def f118.r31 : List IOper := [
⟨some 43, .mkSlice 1 1 [.d (.str [])] [(0, 1, (.c (.d (.str [98, 111, 111, 108]))))], none, []⟩,
⟨some 2, .mv (.t 43), none, []⟩,
⟨some 3, .mv (.c (.d (.str [105, 110, 116]))), none, []⟩,
⟨some 4, .mv (.c (.d (.bool true))), none, []⟩]
def f118.r32 : List IOper := [
⟨some 2, .mv (.c (.nils)), none, []⟩,
⟨some 3, .mv (.c (.d (.str []))), none, []⟩,
⟨some 4, .mv (.c (.d (.bool false))), none, []⟩]
def f118 : IFn := ⟨1, 44, [.t 2, .t 3, .t 4], (.seq (.region f118.r0) (.seq (.seq (.region f118.r1) (.block 0 (.seq (.seq (.region f118.r2) (.cond (.t 6) .skip (.seq (.region f118.r3) (.cond (.t 6) .skip (.seq (.region f118.r4) (.cond (.t 6) .skip (.seq (.region f118.r5) (.cond (.t 6) .skip (.seq (.region f118.r6) (.cond (.t 6) .skip (.seq (.region f118.r7) (.cond (.t 6) .skip (.region f118.r8))))))))))))) (.cond (.t 6) (.seq (.region f118.r9) .ret) (.seq (.seq (.region f118.r10) (.cond (.t 15) .skip (.seq (.region f118.r11) (.cond (.t 15) .skip (.region f118.r12))))) (.cond (.t 15) (.seq (.region f118.r13) .ret) (.seq (.seq (.region f118.r14) (.cond (.t 20) .skip (.seq (.region f118.r15) (.cond (.t 20) .skip (.seq (.region f118.r16) (.cond (.t 20) .skip (.region f118.r17))))))) (.cond (.t 20) (.seq (.region f118.r18) .ret) (.seq (.seq (.region f118.r19) (.cond (.t 26) .skip (.region f118.r20))) (.cond (.t 26) (.seq (.region f118.r21) .ret) (.seq (.seq (.region f118.r22) (.cond (.t 30) .skip (.seq (.region f118.r23) (.cond (.t 30) .skip (.region f118.r24))))) (.cond (.t 30) (.seq (.region f118.r25) .ret) (.seq (.region f118.r26) (.cond (.t 35) (.seq (.region f118.r27) .ret) (.seq (.region f118.r28) (.cond (.t 38) (.seq (.region f118.r29) .ret) (.seq (.region f118.r30) (.cond (.t 41) (.seq (.region f118.r31) .ret) .skip)))))))))))))))))) (.seq (.region f118.r32) .ret)))⟩
def f119.r0 : List IOper := [
⟨some 4, .mv (.c (.d (.bool false))), none, []⟩]
def f119.r1 : List IOper := [
⟨some 5, .mv (.t 0), none, []⟩,
⟨some 6, .bin .eql (.t 5) (.c (.d (.str [98, 111, 111, 108]))), none, []⟩]
def f119.r2 : List IOper := [
⟨some 7, .mv (.t 1), none, []⟩,
⟨some 8, .bin .eql (.t 7) (.c (.d (.int .i64 0))), none, []⟩,
⟨some 9, .mv (.t 8), none, []⟩,
⟨some 10, .mv (.t 1), some (9, false), []⟩,
⟨some 11, .bin .eql (.t 10) (.c (.d (.int .i64 1))), some (9, false), []⟩,
⟨some 12, .pick (.t 9) (.c (.d (.bool true))) (.t 11), none, []⟩,
⟨some 4, .mv (.t 12), none, []⟩]
def f119.r3 : List IOper := [
⟨some 13, .mv (.t 0), none, []⟩,
⟨some 14, .bin .eql (.t 13) (.c (.d (.str [105, 110, 116]))), none, []⟩,
⟨some 15, .mv (.t 14), none, []⟩,
⟨some 16, .mv (.t 1), some (15, true), []⟩,
⟨some 17, .bin .geq (.t 16) (.c (.d (.int .i64 (-2147483648)))), some (15, true), []⟩,
⟨some 18, .pick (.t 15) (.t 17) (.c (.d (.bool false))), none, []⟩,
⟨some 19, .mv (.t 18), none, []⟩,
⟨some 20, .mv (.t 1), some (19, true), []⟩,
⟨some 21, .bin .leq (.t 20) (.c (.d (.int .i64 2147483647))), some (19, true), []⟩,
⟨some 22, .pick (.t 19) (.t 21) (.c (.d (.bool false))), none, []⟩,
⟨some 4, .mv (.t 22), none, []⟩]
def f119 : IFn := ⟨2, 23, [.t 4], (.seq (.region f119.r0) (.seq (.seq (.region f119.r1) (.cond (.t 6) (.seq (.region f119.r2) .ret) .skip)) (.seq (.region f119.r3) .ret)))⟩
def f120.r0 : List IOper := [
⟨some 4, .mv (.c (.d (.int .i64 0))), none, []⟩]
def f120.r1 : List IOper := [
⟨some 5, .mv (.t 0), none, []⟩]
def f120.r2 : List IOper := [
⟨some 7, .bin .eql (.t 5) (.c (.d (.str [110, 101, 103]))), none, []⟩,
⟨some 6, .mv (.t 7), none, []⟩]
def f120.r3 : List IOper := [
⟨some 8, .mv (.t 1), none, []⟩,
⟨some 9, .un .neg (.t 8), none, []⟩,
⟨some 10, .call 74 [(.t 9)], none, []⟩,
⟨some 4, .mv (.t 10), none, []⟩]
def f120.r4 : List IOper := [
⟨some 12, .bin .eql (.t 5) (.c (.d (.str [97, 98, 115]))), none, []⟩,
⟨some 11, .mv (.t 12), none, []⟩]
def f120.r5 : List IOper := [
⟨some 13, .mv (.t 1), none, []⟩,
⟨some 14, .bin .lss (.t 13) (.c (.d (.int .i64 0))), none, []⟩]
def f120.r6 : List IOper := [
⟨some 15, .mv (.t 1), none, []⟩,
⟨some 16, .un .neg (.t 15), none, []⟩,
⟨some 17, .call 74 [(.t 16)], none, []⟩,
⟨some 4, .mv (.t 17), none, []⟩]
def f120.r7 : List IOper := [
⟨some 18, .mv (.t 1), none, []⟩,
⟨some 4, .mv (.t 18), none, []⟩]
def f120.r8 : List IOper := [
⟨some 20, .bin .eql (.t 5) (.c (.d (.str [115, 105, 103, 110]))), none, []⟩,
⟨some 19, .mv (.t 20), none, []⟩]
def f120.r9 : List IOper := [
⟨some 21, .mv (.t 1), none, []⟩,
⟨some 22, .bin .gtr (.t 21) (.c (.d (.int .i64 0))), none, []⟩,
⟨some 23, .call 170 [(.t 22)], none, []⟩,
⟨some 24, .mv (.t 1), none, []⟩,
⟨some 25, .bin .lss (.t 24) (.c (.d (.int .i64 0))), none, []⟩,
⟨some 26, .call 170 [(.t 25)], none, []⟩,
⟨some 27, .bin .sub (.t 23) (.t 26), none, []⟩,
⟨some 4, .mv (.t 27), none, []⟩]
def f120.r10 : List IOper := [
⟨some 29, .bin .eql (.t 5) (.c (.d (.str [110, 111, 116]))), none, []⟩,
⟨some 28, .mv (.t 29), none, []⟩]
def f120.r11 : List IOper := [
⟨some 30, .mv (.t 1), none, []⟩,
⟨some 31, .bin .sub (.c (.d (.int .i64 1))) (.t 30), none, []⟩,
⟨some 4, .mv (.t 31), none, []⟩]
def f120.r12 : List IOper := [
⟨some 32, .mv (.t 1), none, []⟩,
⟨some 4, .mv (.t 32), none, []⟩]
def f120 : IFn := ⟨2, 33, [.t 4], (.seq (.region f120.r0) (.seq (.seq (.region f120.r1) (.block 0 (.seq (.region f120.r2) (.cond (.t 6) (.seq (.region f120.r3) .ret) (.seq (.region f120.r4) (.cond (.t 11) (.seq (.seq (.region f120.r5) (.cond (.t 14) (.seq (.region f120.r6) .ret) .skip)) (.seq (.region f120.r7) .ret)) (.seq (.region f120.r8) (.cond (.t 19) (.seq (.region f120.r9) .ret) (.seq (.region f120.r10) (.cond (.t 28) (.seq (.region f120.r11) .ret) .skip)))))))))) (.seq (.region f120.r12) .ret)))⟩
def f121.r0 : List IOper := [
⟨some 6, .mv (.c (.d (.int .i64 0))), none, []⟩]
def f121.r1 : List IOper := [
⟨some 7, .mv (.t 0), none, []⟩]
def f121.r2 : List IOper := [
⟨some 9, .bin .eql (.t 7) (.c (.d (.str [97, 100, 100]))), none, []⟩,
⟨some 8, .mv (.t 9), none, []⟩]
def f121.r3 : List IOper := [
⟨some 10, .mv (.t 1), none, []⟩,
⟨some 11, .mv (.t 2), none, []⟩,
⟨some 12, .bin .add (.t 10) (.t 11), none, []⟩,
⟨some 13, .call 74 [(.t 12)], none, []⟩,
⟨some 6, .mv (.t 13), none, []⟩]
def f121.r4 : List IOper := [
⟨some 15, .bin .eql (.t 7) (.c (.d (.str [115, 117, 98]))), none, []⟩,
⟨some 14, .mv (.t 15), none, []⟩]
def f121.r5 : List IOper := [
⟨some 16, .mv (.t 1), none, []⟩,
⟨some 17, .mv (.t 2), none, []⟩,
⟨some 18, .bin .sub (.t 16) (.t 17), none, []⟩,
⟨some 19, .call 74 [(.t 18)], none, []⟩,
⟨some 6, .mv (.t 19), none, []⟩]
def f121.r6 : List IOper := [
⟨some 21, .bin .eql (.t 7) (.c (.d (.str [109, 117, 108]))), none, []⟩,
⟨some 20, .mv (.t 21), none, []⟩]
def f121.r7 : List IOper := [
⟨some 22, .mv (.t 1), none, []⟩,
⟨some 23, .mv (.t 2), none, []⟩,
⟨some 24, .bin .mul (.t 22) (.t 23), none, []⟩,
⟨some 25, .call 74 [(.t 24)], none, []⟩,
⟨some 6, .mv (.t 25), none, []⟩]
def f121.r8 : List IOper := [
⟨some 27, .bin .eql (.t 7) (.c (.d (.str [100, 105, 118]))), none, []⟩,
⟨some 26, .mv (.t 27), none, []⟩]
def f121.r9 : List IOper := [
⟨some 28, .mv (.t 1), none, []⟩,
⟨some 29, .mv (.t 2), none, []⟩,
⟨some 30, .call 171 [(.t 28), (.t 29)], none, []⟩,
⟨some 31, .call 74 [(.t 30)], none, []⟩,
⟨some 6, .mv (.t 31), none, []⟩]
def f121.r10 : List IOper := [
⟨some 33, .bin .eql (.t 7) (.c (.d (.str [109, 111, 100]))), none, []⟩,
⟨some 32, .mv (.t 33), none, []⟩]
def f121.r11 : List IOper := [
⟨some 34, .mv (.t 2), none, []⟩,
⟨some 35, .bin .eql (.t 34) (.c (.d (.int .i64 0))), none, []⟩]
def f121.r12 : List IOper := [
⟨some 6, .mv (.c (.d (.int .i64 0))), none, []⟩]
def f121.r13 : List IOper := [
⟨some 36, .mv (.t 1), none, []⟩,
⟨some 37, .mv (.t 2), none, []⟩,
⟨some 38, .mv (.t 1), none, []⟩,
⟨some 39, .mv (.t 2), none, []⟩,
⟨some 40, .call 171 [(.t 38), (.t 39)], none, []⟩,
⟨some 41, .bin .mul (.t 37) (.t 40), none, []⟩,
⟨some 42, .bin .sub (.t 36) (.t 41), none, []⟩,
⟨some 6, .mv (.t 42), none, []⟩]
def f121.r14 : List IOper := [
⟨some 44, .bin .eql (.t 7) (.c (.d (.str [109, 105, 110]))), none, []⟩,
⟨some 43, .mv (.t 44), none, []⟩]
def f121.r15 : List IOper := [
⟨some 45, .mv (.t 1), none, []⟩,
⟨some 46, .mv (.t 2), none, []⟩,
⟨some 47, .minmax false [(.t 45), (.t 46)], none, []⟩,
⟨some 6, .mv (.t 47), none, []⟩]
def f121.r16 : List IOper := [
⟨some 49, .bin .eql (.t 7) (.c (.d (.str [109, 97, 120]))), none, []⟩,
⟨some 48, .mv (.t 49), none, []⟩]
def f121.r17 : List IOper := [
⟨some 50, .mv (.t 1), none, []⟩,
⟨some 51, .mv (.t 2), none, []⟩,
⟨some 52, .minmax true [(.t 50), (.t 51)], none, []⟩,
⟨some 6, .mv (.t 52), none, []⟩]
def f121.r18 : List IOper := [
⟨some 54, .bin .eql (.t 7) (.c (.d (.str [108, 116]))), none, []⟩,
⟨some 53, .mv (.t 54), none, []⟩]
def f121.r19 : List IOper := [
⟨some 55, .mv (.t 1), none, []⟩,
⟨some 56, .mv (.t 2), none, []⟩,
⟨some 57, .bin .lss (.t 55) (.t 56), none, []⟩,
⟨some 58, .call 170 [(.t 57)], none, []⟩,
⟨some 6, .mv (.t 58), none, []⟩]
def f121.r20 : List IOper := [
⟨some 60, .bin .eql (.t 7) (.c (.d (.str [108, 101]))), none, []⟩,
⟨some 59, .mv (.t 60), none, []⟩]
def f121.r21 : List IOper := [
⟨some 61, .mv (.t 1), none, []⟩,
⟨some 62, .mv (.t 2), none, []⟩,
⟨some 63, .bin .leq (.t 61) (.t 62), none, []⟩,
⟨some 64, .call 170 [(.t 63)], none, []⟩,
⟨some 6, .mv (.t 64), none, []⟩]
def f121.r22 : List IOper := [
⟨some 66, .bin .eql (.t 7) (.c (.d (.str [103, 116]))), none, []⟩,
⟨some 65, .mv (.t 66), none, []⟩]
def f121.r23 : List IOper := [
⟨some 67, .mv (.t 1), none, []⟩,
⟨some 68, .mv (.t 2), none, []⟩,
⟨some 69, .bin .gtr (.t 67) (.t 68), none, []⟩,
⟨some 70, .call 170 [(.t 69)], none, []⟩,
⟨some 6, .mv (.t 70), none, []⟩]
def f121.r24 : List IOper := [
⟨some 72, .bin .eql (.t 7) (.c (.d (.str [103, 101]))), none, []⟩,
⟨some 71, .mv (.t 72), none, []⟩]
def f121.r25 : List IOper := [
⟨some 73, .mv (.t 1), none, []⟩,
⟨some 74, .mv (.t 2), none, []⟩,
⟨some 75, .bin .geq (.t 73) (.t 74), none, []⟩,
⟨some 76, .call 170 [(.t 75)], none, []⟩,
⟨some 6, .mv (.t 76), none, []⟩]
def f121.r26 : List IOper := [
⟨some 78, .bin .eql (.t 7) (.c (.d (.str [101, 113]))), none, []⟩,
⟨some 77, .mv (.t 78), none, []⟩]
def f121.r27 : List IOper := [
⟨some 79, .mv (.t 1), none, []⟩,
⟨some 80, .mv (.t 2), none, []⟩,
⟨some 81, .bin .eql (.t 79) (.t 80), none, []⟩,
⟨some 82, .call 170 [(.t 81)], none, []⟩,
⟨some 6, .mv (.t 82), none, []⟩]
def f121.r28 : List IOper := [
⟨some 84, .bin .eql (.t 7) (.c (.d (.str [110, 101]))), none, []⟩,
⟨some 83, .mv (.t 84), none, []⟩]
def f121.r29 : List IOper := [
⟨some 85, .bin .eql (.t 7) (.c (.d (.str [120, 111, 114]))), none, []⟩,
⟨some 83, .mv (.t 85), none, []⟩]
def f121.r30 : List IOper := [
⟨some 86, .mv (.t 1), none, []⟩,
⟨some 87, .mv (.t 2), none, []⟩,
⟨some 88, .bin .neq (.t 86) (.t 87), none, []⟩,
⟨some 89, .call 170 [(.t 88)], none, []⟩,
⟨some 6, .mv (.t 89), none, []⟩]
def f121.r31 : List IOper := [
⟨some 91, .bin .eql (.t 7) (.c (.d (.str [97, 110, 100]))), none, []⟩,
⟨some 90, .mv (.t 91), none, []⟩]
def f121.r32 : List IOper := [
⟨some 92, .mv (.t 1), none, []⟩,
⟨some 93, .mv (.t 2), none, []⟩,
⟨some 94, .bin .mul (.t 92) (.t 93), none, []⟩,
⟨some 6, .mv (.t 94), none, []⟩]
def f121.r33 : List IOper := [
⟨some 95, .mv (.t 1), none, []⟩,
⟨some 96, .mv (.t 2), none, []⟩,
⟨some 97, .minmax true [(.t 95), (.t 96)], none, []⟩,
⟨some 6, .mv (.t 97), none, []⟩]
def f121 : IFn := ⟨3, 98, [.t 6], (.seq (.region f121.r0) (.seq (.seq (.region f121.r1) (.block 0 (.seq (.region f121.r2) (.cond (.t 8) (.seq (.region f121.r3) .ret) (.seq (.region f121.r4) (.cond (.t 14) (.seq (.region f121.r5) .ret) (.seq (.region f121.r6) (.cond (.t 20) (.seq (.region f121.r7) .ret) (.seq (.region f121.r8) (.cond (.t 26) (.seq (.region f121.r9) .ret) (.seq (.region f121.r10) (.cond (.t 32) (.seq (.seq (.region f121.r11) (.cond (.t 35) (.seq (.region f121.r12) .ret) .skip)) (.seq (.region f121.r13) .ret)) (.seq (.region f121.r14) (.cond (.t 43) (.seq (.region f121.r15) .ret) (.seq (.region f121.r16) (.cond (.t 48) (.seq (.region f121.r17) .ret) (.seq (.region f121.r18) (.cond (.t 53) (.seq (.region f121.r19) .ret) (.seq (.region f121.r20) (.cond (.t 59) (.seq (.region f121.r21) .ret) (.seq (.region f121.r22) (.cond (.t 65) (.seq (.region f121.r23) .ret) (.seq (.region f121.r24) (.cond (.t 71) (.seq (.region f121.r25) .ret) (.seq (.region f121.r26) (.cond (.t 77) (.seq (.region f121.r27) .ret) (.seq (.seq (.region f121.r28) (.cond (.t 83) .skip (.region f121.r29))) (.cond (.t 83) (.seq (.region f121.r30) .ret) (.seq (.region f121.r31) (.cond (.t 90) (.seq (.region f121.r32) .ret) .skip)))))))))))))))))))))))))))))) (.seq (.region f121.r33) .ret)))⟩
def f124.r0 : List IOper := [
⟨some 1, .box 3 (.t 0), none, []⟩,
⟨some 2, .mv (.c (.d (.bool false))), none, []⟩]
def f124.r1 : List IOper := [
⟨some 3, .load 3 true (.t 1), none, []⟩,
⟨some 4, .call 125 [(.t 3)], none, []⟩,
⟨some 5, .un .not (.t 4), none, []⟩,
⟨some 2, .mv (.t 5), none, []⟩]
def f124 : IFn := ⟨1, 6, [.t 2], (.seq (.region f124.r0) (.seq (.region f124.r1) .ret))⟩
def f125.r0 : List IOper := [
⟨some 1, .box 3 (.t 0), none, []⟩,
⟨some 2, .mv (.c (.d (.bool false))), none, []⟩]
def f125.r1 : List IOper := [
⟨some 3, .faddr 0 1 (.t 1), none, []⟩,
⟨some 4, .load 1 false (.t 3), none, []⟩,
⟨some 5, .bin .eql (.t 4) (.c (.d (.str [105, 110, 116]))), none, []⟩,
⟨some 6, .mv (.t 5), none, []⟩,
⟨some 7, .faddr 0 1 (.t 1), some (6, false), []⟩,
⟨some 8, .load 1 false (.t 7), some (6, false), []⟩,
⟨some 9, .bin .eql (.t 8) (.c (.d (.str [98, 111, 111, 108]))), some (6, false), []⟩,
⟨some 10, .pick (.t 6) (.c (.d (.bool true))) (.t 9), none, []⟩,
⟨some 11, .mv (.t 10), none, []⟩,
⟨some 12, .faddr 0 1 (.t 1), some (11, false), []⟩,
⟨some 13, .load 1 false (.t 12), some (11, false), []⟩,
⟨some 14, .call 132 [(.t 13)], some (11, false), []⟩,
⟨some 15, .pick (.t 11) (.c (.d (.bool true))) (.t 14), none, []⟩,
⟨some 16, .mv (.t 15), none, []⟩,
⟨some 17, .faddr 1 2 (.t 1), some (16, true), []⟩,
⟨some 18, .load 2 true (.t 17), some (16, true), []⟩,
⟨some 19, .call 175 [(.t 18)], some (16, true), []⟩,
⟨some 20, .pick (.t 16) (.t 19) (.c (.d (.bool false))), none, []⟩,
⟨some 2, .mv (.t 20), none, []⟩]
def f125 : IFn := ⟨1, 21, [.t 2], (.seq (.region f125.r0) (.seq (.region f125.r1) .ret))⟩
def f126.r0 : List IOper := [
⟨some 4, .mv (.c (.d (.bool false))), none, []⟩]
def f126.r1 : List IOper := [
⟨some 5, .mv (.t 0), none, []⟩,
⟨some 6, .mv (.t 1), none, []⟩,
⟨some 7, .call 176 [(.t 5), (.t 6)], none, []⟩,
⟨some 8, .bin .geq (.t 7) (.c (.d (.int .i64 0))), none, []⟩,
⟨some 4, .mv (.t 8), none, []⟩]
def f126 : IFn := ⟨2, 9, [.t 4], (.seq (.region f126.r0) (.seq (.region f126.r1) .ret))⟩
def f127.r0 : List IOper := [
⟨some 4, .mv (.c (.d (.bool false))), none, []⟩]
def f127.r1 : List IOper := [
⟨some 5, .mv (.t 0), none, []⟩,
⟨some 6, .mv (.t 1), none, []⟩,
⟨some 7, .call 177 [(.t 5), (.t 6)], none, []⟩,
⟨some 8, .bin .geq (.t 7) (.c (.d (.int .i64 0))), none, []⟩,
⟨some 4, .mv (.t 8), none, []⟩]
def f127 : IFn := ⟨2, 9, [.t 4], (.seq (.region f127.r0) (.seq (.region f127.r1) .ret))⟩
def f128.r0 : List IOper := [
⟨some 1, .box 2 (.t 0), none, []⟩,
⟨some 2, .mv (.c (.d (.bool false))), none, []⟩]
def f128.r1 : List IOper := [
⟨some 3, .load 2 true (.t 1), none, []⟩,
⟨some 4, .call 48 [(.t 3)], none, []⟩,
⟨some 5, .un .not (.t 4), none, []⟩,
⟨some 2, .mv (.t 5), none, []⟩]
def f128 : IFn := ⟨1, 6, [.t 2], (.seq (.region f128.r0) (.seq (.region f128.r1) .ret))⟩
def f129.r0 : List IOper := [
⟨some 4, .mv (.c (.nils)), none, []⟩]
def f129.r1 : List IOper := [
⟨some 5, .mv (.t 1), none, []⟩,
⟨some 6, .bin .lss (.t 5) (.c (.d (.int .i64 0))), none, []⟩]
def f129.r2 : List IOper := [
⟨some 7, .mkiface 9 (.c (.d (.str [99, 97, 110, 110, 111, 116, 32, 98, 101, 32, 110, 101, 103, 97, 116, 105, 118, 101]))), none, []⟩,
⟨none, .bad, none, []⟩]
def f129.r3 : List IOper := [
⟨some 8, .mv (.t 1), none, []⟩,
⟨some 9, .mv (.t 0), none, []⟩,
⟨some 10, .cap (.t 9), none, []⟩,
⟨some 11, .mv (.t 0), none, []⟩,
⟨some 12, .len .slice (.t 11), none, []⟩,
⟨some 13, .bin .sub (.t 10) (.t 12), none, []⟩,
⟨some 14, .bin .sub (.t 8) (.t 13), none, []⟩,
⟨some 1, .mv (.t 14), none, []⟩]
def f129.r4 : List IOper := [
⟨some 15, .mv (.t 1), none, []⟩,
⟨some 16, .bin .gtr (.t 15) (.c (.d (.int .i64 0))), none, []⟩]
def f129.r5 : List IOper := [
⟨some 17, .mv (.t 0), none, []⟩,
⟨some 18, .mv (.t 0), none, []⟩,
⟨some 19, .cap (.t 18), none, []⟩,
⟨some 20, .lslice 3 (.t 17) none (some (.t 19)), none, []⟩,
⟨some 21, .mv (.t 1), none, []⟩,
⟨some 22, .appendN 3 56 [.d (.str []), .d (.str []), .nils] (.t 20) (.t 21), none, []⟩,
⟨some 23, .mv (.t 0), none, []⟩,
⟨some 24, .len .slice (.t 23), none, []⟩,
⟨some 25, .lslice 3 (.t 22) none (some (.t 24)), none, []⟩,
⟨some 0, .mv (.t 25), none, []⟩]
def f129.r6 : List IOper := [
⟨some 26, .mv (.t 0), none, []⟩,
⟨some 4, .mv (.t 26), none, []⟩]
def f129 : IFn := ⟨2, 27, [.t 4], (.seq (.region f129.r0) (.seq (.seq (.region f129.r1) (.cond (.t 6) (.region f129.r2) .skip)) (.seq (.seq (.region f129.r3) (.seq (.region f129.r4) (.cond (.t 16) (.region f129.r5) .skip))) (.seq (.region f129.r6) .ret))))⟩
def f130.r0 : List IOper := [
⟨some 4, .box 1 (.t 1), none, []⟩,
⟨some 5, .box 1 (.t 2), none, []⟩,
⟨some 6, .mv (.c (.d (.int .i64 0))), none, []⟩]
def f130.r1 : List IOper := [
⟨some 7, .mv (.t 0), none, []⟩,
⟨some 8, .mkfunc 178 [] [(.t 4), (.t 5)], none, []⟩,
⟨some 9, .call 84 [(.t 7), (.t 8)], none, []⟩,
⟨some 6, .mv (.t 9), none, []⟩]
def f130 : IFn := ⟨3, 10, [.t 6], (.seq (.region f130.r0) (.seq (.region f130.r1) .ret))⟩
def f131.r0 : List IOper := [
⟨some 1, .box 2 (.t 0), none, []⟩,
⟨some 2, .mv (.c (.nils)), none, []⟩]
def f131.r1 : List IOper := [
⟨some 8, .load 2 true (.t 1), none, []⟩,
⟨some 9, .call 175 [(.t 8)], none, []⟩,
⟨some 10, .un .not (.t 9), none, []⟩]
def f131.r2 : List IOper := [
⟨some 2, .mv (.c (.nils)), none, []⟩]
def f131.r3 : List IOper := [
⟨some 3, .mv (.c (.nils)), none, []⟩]
def f131.r4 : List IOper := [
⟨some 11, .faddr 0 1 (.t 1), none, []⟩,
⟨some 12, .load 1 false (.t 11), none, []⟩,
⟨some 13, .bin .neq (.t 12) (.c (.d (.str []))), none, []⟩]
def f131.r5 : List IOper := [
⟨some 14, .mv (.t 3), none, []⟩,
⟨some 15, .faddr 0 1 (.t 1), none, []⟩,
⟨some 16, .load 1 false (.t 15), none, []⟩,
⟨some 17, .build [.d (.int .i64 0), .d (.str []), .d (.int .i64 0), .nils, .d (.str []), .nils, .d (.str [])] [(0, 1, (.c (.d (.int .i64 2)))), (1, 1, (.t 16))], none, []⟩,
⟨some 18, .mkSlice 7 1 [.d (.int .i64 0), .d (.str []), .d (.int .i64 0), .nils, .d (.str []), .nils, .d (.str [])] [(0, 7, (.t 17))], none, []⟩,
⟨some 19, .append 7 112 (.t 14) (.t 18), none, []⟩,
⟨some 3, .mv (.t 19), none, []⟩]
def f131.r6 : List IOper := [
⟨some 20, .faddr 1 1 (.t 1), none, []⟩,
⟨some 21, .load 1 false (.t 20), none, []⟩,
⟨some 22, .len .slice (.t 21), none, []⟩,
⟨some 23, .mv (.c (.d (.int .i64 0))), none, []⟩]
def f131.r7 : List IOper := [
⟨some 24, .bin .lss (.t 23) (.t 22), none, []⟩]
def f131.r8 : List IOper := [
⟨some 25, .iaddr 2 (.t 21) (.t 23), none, []⟩,
⟨some 26, .load 2 true (.t 25), none, []⟩,
⟨some 5, .alloc [.d (.int .i64 0), .nils], none, []⟩,
⟨none, .store 2 (.t 5) (.t 26), none, []⟩]
def f131.r9 : List IOper := [
⟨some 27, .load 2 true (.t 5), none, []⟩,
⟨some 28, .call 83 [(.t 27)], none, []⟩,
⟨some 29, .len .slice (.t 28), none, []⟩,
⟨some 30, .mv (.c (.d (.int .i64 0))), none, []⟩]
def f131.r10 : List IOper := [
⟨some 31, .bin .lss (.t 30) (.t 29), none, []⟩]
def f131.r11 : List IOper := [
⟨some 32, .iaddr 1 (.t 28) (.t 30), none, []⟩,
⟨some 33, .load 1 false (.t 32), none, []⟩,
⟨some 7, .mv (.t 33), none, []⟩]
def f131.r12 : List IOper := [
⟨some 34, .mv (.t 3), none, []⟩,
⟨some 35, .mv (.t 7), none, []⟩,
⟨some 36, .call 134 [(.t 34), (.c (.d (.int .i64 1))), (.t 35)], none, []⟩,
⟨some 37, .bin .lss (.t 36) (.c (.d (.int .i64 0))), none, []⟩]
def f131.r13 : List IOper := [
⟨some 38, .mv (.t 3), none, []⟩,
⟨some 39, .mv (.t 7), none, []⟩,
⟨some 40, .build [.d (.int .i64 0), .d (.str []), .d (.int .i64 0), .nils, .d (.str []), .nils, .d (.str [])] [(0, 1, (.c (.d (.int .i64 1)))), (1, 1, (.t 39))], none, []⟩,
⟨some 41, .mkSlice 7 1 [.d (.int .i64 0), .d (.str []), .d (.int .i64 0), .nils, .d (.str []), .nils, .d (.str [])] [(0, 7, (.t 40))], none, []⟩,
⟨some 42, .append 7 112 (.t 38) (.t 41), none, []⟩,
⟨some 3, .mv (.t 42), none, []⟩]
def f131.r14 : List IOper := [
⟨some 43, .bin .add (.t 30) (.c (.d (.int .i64 1))), none, []⟩,
⟨some 30, .mv (.t 43), none, []⟩]
def f131.l15 : IR := (.seq (.region f131.r10) (.seq (.cond (.t 31) .skip (.exit 2)) (.seq (.block 3 (.seq (.region f131.r11) (.seq (.region f131.r12) (.cond (.t 37) (.region f131.r13) .skip)))) (.region f131.r14))))
def f131.r16 : List IOper := [
⟨some 44, .bin .add (.t 23) (.c (.d (.int .i64 1))), none, []⟩,
⟨some 23, .mv (.t 44), none, []⟩]
def f131.l17 : IR := (.seq (.region f131.r7) (.seq (.cond (.t 24) .skip (.exit 0)) (.seq (.block 1 (.seq (.region f131.r8) (.seq (.region f131.r9) (.block 2 (.loop f131.l15))))) (.region f131.r16))))
def f131.r18 : List IOper := [
⟨some 45, .mv (.t 3), none, []⟩,
⟨some 2, .mv (.t 45), none, []⟩]
def f131 : IFn := ⟨1, 46, [.t 2], (.seq (.region f131.r0) (.seq (.seq (.region f131.r1) (.cond (.t 10) (.seq (.region f131.r2) .ret) .skip)) (.seq (.region f131.r3) (.seq (.seq (.region f131.r4) (.cond (.t 13) (.region f131.r5) .skip)) (.seq (.seq (.region f131.r6) (.block 0 (.loop f131.l17))) (.seq (.region f131.r18) .ret))))))⟩
def f132.r0 : List IOper := [
⟨some 2, .mv (.c (.d (.bool false))), none, []⟩]
def f132.r1 : List IOper := [
⟨some 3, .mv (.t 0), none, []⟩,
⟨some 4, .len .str (.t 3), none, []⟩,
⟨some 5, .bin .lss (.t 4) (.c (.d (.int .i64 1))), none, []⟩,
⟨some 6, .mv (.t 5), none, []⟩,
⟨some 7, .mv (.t 0), some (6, false), []⟩,
⟨some 8, .len .str (.t 7), some (6, false), []⟩,
⟨some 9, .bin .gtr (.t 8) (.c (.d (.int .i64 30))), some (6, false), []⟩,
⟨some 10, .pick (.t 6) (.c (.d (.bool true))) (.t 9), none, []⟩,
⟨some 11, .mv (.t 10), none, []⟩,
⟨some 12, .mv (.t 0), some (11, false), []⟩,
⟨some 13, .idxS (.t 12) (.c (.d (.int .i64 0))), some (11, false), []⟩,
⟨some 14, .bin .lss (.t 13) (.c (.d (.int .u8 65))), some (11, false), []⟩,
⟨some 15, .pick (.t 11) (.c (.d (.bool true))) (.t 14), none, []⟩,
⟨some 16, .mv (.t 15), none, []⟩,
⟨some 17, .mv (.t 0), some (16, false), []⟩,
⟨some 18, .idxS (.t 17) (.c (.d (.int .i64 0))), some (16, false), []⟩,
⟨some 19, .bin .gtr (.t 18) (.c (.d (.int .u8 90))), some (16, false), []⟩,
⟨some 20, .pick (.t 16) (.c (.d (.bool true))) (.t 19), none, []⟩]
def f132.r2 : List IOper := [
⟨some 2, .mv (.c (.d (.bool false))), none, []⟩]
def f132.r3 : List IOper := [
⟨some 21, .mv (.t 0), none, []⟩,
⟨some 22, .sslice (.t 21) (some (.c (.d (.int .i64 1)))) none, none, []⟩,
⟨some 23, .call 179 [(.t 22), (.c (.d (.str [48, 49, 50, 51, 52, 53, 54, 55, 56, 57])))], none, []⟩,
⟨some 24, .bin .eql (.t 23) (.c (.d (.str []))), none, []⟩,
⟨some 2, .mv (.t 24), none, []⟩]
def f132 : IFn := ⟨1, 25, [.t 2], (.seq (.region f132.r0) (.seq (.seq (.region f132.r1) (.cond (.t 20) (.seq (.region f132.r2) .ret) .skip)) (.seq (.region f132.r3) .ret)))⟩
def f133.r0 : List IOper := [
⟨some 1, .box 7 (.t 0), none, []⟩,
⟨some 2, .mv (.c (.d (.bool false))), none, []⟩]
def f133.r1 : List IOper := [
⟨some 5, .faddr 2 2 (.t 1), none, []⟩,
⟨some 6, .faddr 0 1 (.t 5), none, []⟩,
⟨some 7, .load 1 false (.t 6), none, []⟩,
⟨some 8, .bin .eql (.t 7) (.c (.d (.int .i64 0))), none, []⟩,
⟨some 9, .mv (.t 8), none, []⟩,
⟨some 10, .faddr 2 2 (.t 1), some (9, true), []⟩,
⟨some 11, .faddr 1 1 (.t 10), some (9, true), []⟩,
⟨some 12, .load 1 false (.t 11), some (9, true), []⟩,
⟨some 13, .len .slice (.t 12), some (9, true), []⟩,
⟨some 14, .bin .eql (.t 13) (.c (.d (.int .i64 0))), some (9, true), []⟩,
⟨some 15, .pick (.t 9) (.t 14) (.c (.d (.bool false))), none, []⟩,
⟨some 3, .mv (.t 15), none, []⟩]
def f133.r2 : List IOper := [
⟨some 16, .faddr 4 2 (.t 1), none, []⟩,
⟨some 17, .faddr 0 1 (.t 16), none, []⟩,
⟨some 18, .load 1 false (.t 17), none, []⟩,
⟨some 19, .bin .eql (.t 18) (.c (.d (.str []))), none, []⟩,
⟨some 20, .mv (.t 19), none, []⟩,
⟨some 21, .faddr 4 2 (.t 1), some (20, true), []⟩,
⟨some 22, .faddr 1 1 (.t 21), some (20, true), []⟩,
⟨some 23, .load 1 false (.t 22), some (20, true), []⟩,
⟨some 24, .len .slice (.t 23), some (20, true), []⟩,
⟨some 25, .bin .eql (.t 24) (.c (.d (.int .i64 0))), some (20, true), []⟩,
⟨some 26, .pick (.t 20) (.t 25) (.c (.d (.bool false))), none, []⟩,
⟨some 4, .mv (.t 26), none, []⟩]
def f133.r3 : List IOper := [
⟨some 27, .faddr 0 1 (.t 1), none, []⟩,
⟨some 28, .load 1 false (.t 27), none, []⟩]
def f133.r4 : List IOper := [
⟨some 30, .bin .eql (.t 28) (.c (.d (.int .i64 1))), none, []⟩,
⟨some 29, .mv (.t 30), none, []⟩]
def f133.r5 : List IOper := [
⟨some 31, .faddr 1 1 (.t 1), none, []⟩,
⟨some 32, .load 1 false (.t 31), none, []⟩,
⟨some 33, .call 77 [(.t 32)], none, []⟩,
⟨some 34, .mv (.t 33), none, []⟩,
⟨some 35, .faddr 2 2 (.t 1), some (34, true), []⟩,
⟨some 36, .load 2 true (.t 35), some (34, true), []⟩,
⟨some 37, .call 48 [(.t 36)], some (34, true), []⟩,
⟨some 38, .pick (.t 34) (.t 37) (.c (.d (.bool false))), none, []⟩,
⟨some 39, .mv (.t 38), none, []⟩,
⟨some 40, .mv (.t 4), some (39, true), []⟩,
⟨some 41, .pick (.t 39) (.t 40) (.c (.d (.bool false))), none, []⟩,
⟨some 42, .mv (.t 41), none, []⟩,
⟨some 43, .faddr 6 1 (.t 1), some (42, true), []⟩,
⟨some 44, .load 1 false (.t 43), some (42, true), []⟩,
⟨some 45, .bin .eql (.t 44) (.c (.d (.str []))), some (42, true), []⟩,
⟨some 46, .pick (.t 42) (.t 45) (.c (.d (.bool false))), none, []⟩,
⟨some 2, .mv (.t 46), none, []⟩]
def f133.r6 : List IOper := [
⟨some 48, .bin .eql (.t 28) (.c (.d (.int .i64 2))), none, []⟩,
⟨some 47, .mv (.t 48), none, []⟩]
def f133.r7 : List IOper := [
⟨some 49, .faddr 1 1 (.t 1), none, []⟩,
⟨some 50, .load 1 false (.t 49), none, []⟩,
⟨some 51, .call 77 [(.t 50)], none, []⟩,
⟨some 52, .mv (.t 51), none, []⟩,
⟨some 53, .faddr 4 2 (.t 1), some (52, true), []⟩,
⟨some 54, .load 2 true (.t 53), some (52, true), []⟩,
⟨some 55, .call 175 [(.t 54)], some (52, true), []⟩,
⟨some 56, .pick (.t 52) (.t 55) (.c (.d (.bool false))), none, []⟩,
⟨some 57, .mv (.t 56), none, []⟩,
⟨some 58, .mv (.t 3), some (57, true), []⟩,
⟨some 59, .pick (.t 57) (.t 58) (.c (.d (.bool false))), none, []⟩,
⟨some 60, .mv (.t 59), none, []⟩,
⟨some 61, .faddr 6 1 (.t 1), some (60, true), []⟩,
⟨some 62, .load 1 false (.t 61), some (60, true), []⟩,
⟨some 63, .bin .eql (.t 62) (.c (.d (.str []))), some (60, true), []⟩,
⟨some 64, .pick (.t 60) (.t 63) (.c (.d (.bool false))), none, []⟩,
⟨some 2, .mv (.t 64), none, []⟩]
def f133.r8 : List IOper := [
⟨some 66, .bin .eql (.t 28) (.c (.d (.int .i64 3))), none, []⟩,
⟨some 65, .mv (.t 66), none, []⟩]
def f133.r9 : List IOper := [
⟨some 67, .faddr 1 1 (.t 1), none, []⟩,
⟨some 68, .load 1 false (.t 67), none, []⟩,
⟨some 69, .call 132 [(.t 68)], none, []⟩,
⟨some 70, .mv (.t 69), none, []⟩,
⟨some 71, .faddr 6 1 (.t 1), some (70, true), []⟩,
⟨some 72, .load 1 false (.t 71), some (70, true), []⟩,
⟨some 73, .bin .eql (.t 72) (.c (.d (.str [105, 110, 116]))), some (70, true), []⟩,
⟨some 74, .mv (.t 73), some (70, true), []⟩,
⟨some 75, .faddr 6 1 (.t 1), some (74, false), []⟩,
⟨some 76, .load 1 false (.t 75), some (74, false), []⟩,
⟨some 77, .bin .eql (.t 76) (.c (.d (.str [98, 111, 111, 108]))), some (74, false), []⟩,
⟨some 78, .pick (.t 74) (.c (.d (.bool true))) (.t 77), some (70, true), []⟩,
⟨some 79, .mv (.t 78), some (70, true), []⟩,
⟨some 80, .faddr 6 1 (.t 1), some (79, false), []⟩,
⟨some 81, .load 1 false (.t 80), some (79, false), []⟩,
⟨some 82, .call 132 [(.t 81)], some (79, false), []⟩,
⟨some 83, .pick (.t 79) (.c (.d (.bool true))) (.t 82), some (70, true), []⟩,
⟨some 84, .pick (.t 70) (.t 83) (.c (.d (.bool false))), none, []⟩,
⟨some 85, .mv (.t 84), none, []⟩,
⟨some 86, .mv (.t 3), some (85, true), []⟩,
⟨some 87, .pick (.t 85) (.t 86) (.c (.d (.bool false))), none, []⟩,
⟨some 88, .mv (.t 87), none, []⟩,
⟨some 89, .mv (.t 4), some (88, true), []⟩,
⟨some 90, .pick (.t 88) (.t 89) (.c (.d (.bool false))), none, []⟩,
⟨some 2, .mv (.t 90), none, []⟩]
def f133.r10 : List IOper := [
⟨some 2, .mv (.c (.d (.bool false))), none, []⟩]
def f133 : IFn := ⟨1, 91, [.t 2], (.seq (.region f133.r0) (.seq (.region f133.r1) (.seq (.region f133.r2) (.seq (.seq (.region f133.r3) (.block 0 (.seq (.region f133.r4) (.cond (.t 29) (.seq (.region f133.r5) .ret) (.seq (.region f133.r6) (.cond (.t 47) (.seq (.region f133.r7) .ret) (.seq (.region f133.r8) (.cond (.t 65) (.seq (.region f133.r9) .ret) .skip)))))))) (.seq (.region f133.r10) .ret)))))⟩
def f134.r0 : List IOper := [
⟨some 4, .box 1 (.t 1), none, []⟩,
⟨some 5, .box 1 (.t 2), none, []⟩,
⟨some 6, .mv (.c (.d (.int .i64 0))), none, []⟩]
def f134.r1 : List IOper := [
⟨some 7, .mv (.t 0), none, []⟩,
⟨some 8, .mkfunc 180 [] [(.t 4), (.t 5)], none, []⟩,
⟨some 9, .call 84 [(.t 7), (.t 8)], none, []⟩,
⟨some 6, .mv (.t 9), none, []⟩]
def f134 : IFn := ⟨3, 10, [.t 6], (.seq (.region f134.r0) (.seq (.region f134.r1) .ret))⟩
def f135.r0 : List IOper := [
⟨some 2, .box 2 (.t 0), none, []⟩,
⟨some 4, .alloc [.d (.str []), .nils], none, []⟩,
⟨some 5, .mv (.c (.d (.int .i64 0))), none, []⟩]
def f135.r1 : List IOper := [
⟨some 13, .load 2 true (.t 2), none, []⟩,
⟨some 14, .call 175 [(.t 13)], none, []⟩,
⟨some 15, .un .not (.t 14), none, []⟩,
⟨some 16, .mv (.t 15), none, []⟩,
⟨some 17, .mv (.t 1), some (16, false), []⟩,
⟨some 18, .call 85 [(.t 17)], some (16, false), []⟩,
⟨some 19, .un .not (.t 18), some (16, false), []⟩,
⟨some 20, .pick (.t 16) (.c (.d (.bool true))) (.t 19), none, []⟩]
def f135.r2 : List IOper := [
⟨some 21, .build [.d (.str []), .nils] [], none, []⟩,
⟨none, .store 2 (.t 4) (.t 21), none, []⟩,
⟨some 5, .mv (.c (.d (.int .i64 1))), none, []⟩]
def f135.r3 : List IOper := [
⟨some 22, .faddr 0 1 (.t 2), none, []⟩,
⟨some 23, .load 1 false (.t 22), none, []⟩,
⟨some 6, .mv (.t 23), none, []⟩]
def f135.r4 : List IOper := [
⟨some 7, .mv (.c (.nils)), none, []⟩]
def f135.r5 : List IOper := [
⟨some 24, .mv (.t 1), none, []⟩,
⟨some 25, .faddr 0 1 (.t 2), none, []⟩,
⟨some 26, .load 1 false (.t 25), none, []⟩,
⟨some 27, .call 134 [(.t 24), (.c (.d (.int .i64 2))), (.t 26)], none, []⟩,
⟨some 8, .mv (.t 27), none, []⟩]
def f135.r6 : List IOper := [
⟨some 28, .faddr 0 1 (.t 2), none, []⟩,
⟨some 29, .load 1 false (.t 28), none, []⟩,
⟨some 30, .bin .neq (.t 29) (.c (.d (.str []))), none, []⟩,
⟨some 31, .mv (.t 30), none, []⟩,
⟨some 32, .mv (.t 8), some (31, true), []⟩,
⟨some 33, .bin .geq (.t 32) (.c (.d (.int .i64 0))), some (31, true), []⟩,
⟨some 34, .pick (.t 31) (.t 33) (.c (.d (.bool false))), none, []⟩]
def f135.r7 : List IOper := [
⟨some 35, .mv (.t 1), none, []⟩,
⟨some 36, .mv (.t 8), none, []⟩,
⟨some 37, .iaddr 7 (.t 35) (.t 36), none, [0, 1]⟩,
⟨some 38, .faddr 4 2 (.t 37), none, [2]⟩,
⟨some 39, .faddr 0 1 (.t 38), none, [3]⟩,
⟨some 40, .load 1 false (.t 39), none, [4]⟩,
⟨some 41, .mv (.t 1), none, []⟩,
⟨some 42, .mv (.t 8), none, []⟩,
⟨some 43, .iaddr 7 (.t 41) (.t 42), none, [6, 7]⟩,
⟨some 44, .faddr 4 2 (.t 43), none, [8]⟩,
⟨some 45, .faddr 1 1 (.t 44), none, [9]⟩,
⟨some 46, .load 1 false (.t 45), none, [10]⟩,
⟨some 47, .call 181 [(.t 46)], none, [11]⟩,
⟨some 6, .mv (.t 40), none, [5, 12, 0, 1, 2, 3, 4, 5]⟩,
⟨some 7, .mv (.t 47), none, [12, 13, 0, 1, 2, 3, 4, 5, 6, 7, 8, 9, 10, 11, 12, 13]⟩]
def f135.r8 : List IOper := [
⟨some 48, .faddr 1 1 (.t 2), none, []⟩,
⟨some 49, .load 1 false (.t 48), none, []⟩,
⟨some 50, .len .slice (.t 49), none, []⟩,
⟨some 51, .mv (.c (.d (.int .i64 0))), none, []⟩]
def f135.r9 : List IOper := [
⟨some 52, .bin .lss (.t 51) (.t 50), none, []⟩]
def f135.r10 : List IOper := [
⟨some 53, .iaddr 2 (.t 49) (.t 51), none, []⟩,
⟨some 54, .load 2 true (.t 53), none, []⟩,
⟨some 10, .alloc [.d (.int .i64 0), .nils], none, []⟩,
⟨none, .store 2 (.t 10) (.t 54), none, []⟩]
def f135.r11 : List IOper := [
⟨some 56, .load 2 true (.t 10), none, []⟩,
⟨some 57, .mv (.t 1), none, []⟩,
⟨some 58, .call 87 [(.t 56), (.t 57)], none, []⟩,
⟨some 55, .mv (.t 58), none, []⟩,
⟨some 59, .ext (.t 55) 0, none, []⟩,
⟨some 60, .ext (.t 55) 1, none, []⟩,
⟨some 11, .alloc [.d (.int .i64 0), .nils], none, []⟩,
⟨none, .store 2 (.t 11) (.t 59), none, []⟩,
⟨some 12, .mv (.t 60), none, []⟩]
def f135.r12 : List IOper := [
⟨some 61, .mv (.t 12), none, []⟩,
⟨some 62, .bin .neq (.t 61) (.c (.d (.int .i64 0))), none, []⟩]
def f135.r13 : List IOper := [
⟨some 63, .build [.d (.str []), .nils] [], none, []⟩,
⟨some 64, .mv (.t 12), none, []⟩,
⟨none, .store 2 (.t 4) (.t 63), none, []⟩,
⟨some 5, .mv (.t 64), none, []⟩]
def f135.r14 : List IOper := [
⟨some 65, .mv (.t 7), none, []⟩,
⟨some 66, .load 2 true (.t 11), none, []⟩,
⟨some 67, .mkSlice 2 1 [.d (.int .i64 0), .nils] [(0, 2, (.t 66))], none, []⟩,
⟨some 68, .append 2 32 (.t 65) (.t 67), none, []⟩,
⟨some 7, .mv (.t 68), none, []⟩]
def f135.r15 : List IOper := [
⟨some 69, .bin .add (.t 51) (.c (.d (.int .i64 1))), none, []⟩,
⟨some 51, .mv (.t 69), none, []⟩]
def f135.l16 : IR := (.seq (.region f135.r9) (.seq (.cond (.t 52) .skip (.exit 0)) (.seq (.block 1 (.seq (.region f135.r10) (.seq (.region f135.r11) (.seq (.seq (.region f135.r12) (.cond (.t 62) (.seq (.region f135.r13) .ret) .skip)) (.region f135.r14))))) (.region f135.r15))))
def f135.r17 : List IOper := [
⟨some 70, .mv (.t 6), none, []⟩,
⟨some 71, .mv (.t 7), none, []⟩,
⟨some 72, .call 182 [(.t 70), (.t 71)], none, []⟩,
⟨some 73, .ext (.t 72) 0, none, []⟩,
⟨some 74, .ext (.t 72) 1, none, []⟩,
⟨none, .store 2 (.t 4) (.t 73), none, []⟩,
⟨some 5, .mv (.t 74), none, []⟩]
def f135 : IFn := ⟨2, 75, [.cell 4 2 true, .t 5], (.seq (.region f135.r0) (.seq (.seq (.region f135.r1) (.cond (.t 20) (.seq (.region f135.r2) .ret) .skip)) (.seq (.region f135.r3) (.seq (.region f135.r4) (.seq (.seq (.region f135.r5) (.seq (.region f135.r6) (.cond (.t 34) (.draw f135.r7) .skip))) (.seq (.seq (.region f135.r8) (.block 0 (.loop f135.l16))) (.seq (.region f135.r17) .ret)))))))⟩
def f136.r0 : List IOper := [
⟨some 2, .box 7 (.t 0), none, []⟩,
⟨some 3, .mv (.c (.d (.bool false))), none, []⟩]
def f136.r1 : List IOper := [
⟨some 4, .faddr 0 1 (.t 2), none, []⟩,
⟨some 5, .load 1 false (.t 4), none, []⟩,
⟨some 6, .bin .eql (.t 5) (.c (.d (.int .i64 1))), none, []⟩,
⟨some 7, .mv (.t 6), none, []⟩,
⟨some 8, .faddr 1 1 (.t 2), some (7, true), []⟩,
⟨some 9, .load 1 false (.t 8), some (7, true), []⟩,
⟨some 10, .faddr 0 1 (.t 1), some (7, true), []⟩,
⟨some 11, .load 1 false (.t 10), some (7, true), []⟩,
⟨some 12, .bin .eql (.t 9) (.t 11), some (7, true), []⟩,
⟨some 13, .pick (.t 7) (.t 12) (.c (.d (.bool false))), none, []⟩,
⟨some 3, .mv (.t 13), none, []⟩]
def f136 : IFn := ⟨2, 14, [.t 3], (.seq (.region f136.r0) (.seq (.region f136.r1) .ret))⟩
def f137.r0 : List IOper := [
⟨some 4, .box 2 (.t 1), none, []⟩]
def f137.r1 : List IOper := [
⟨some 8, .mv (.t 0), none, []⟩,
⟨some 9, .nilchk (.t 8), none, [0]⟩,
⟨some 10, .faddr 0 1 (.t 9), none, [1]⟩,
⟨some 11, .load 1 false (.t 10), none, [2]⟩,
⟨some 12, .mv (.t 2), none, []⟩,
⟨some 13, .faddr 0 1 (.t 4), none, []⟩,
⟨some 14, .load 1 false (.t 13), none, [5]⟩,
⟨some 15, .bin .mul (.t 12) (.t 14), none, [4, 6]⟩,
⟨some 16, .bin .add (.t 11) (.t 15), none, [3, 7]⟩,
⟨some 17, .nilchk (.t 8), none, [0, 0, 1, 2, 3, 4, 5, 6, 7, 8]⟩,
⟨some 18, .faddr 0 1 (.t 17), none, [9, 0, 1, 2, 3, 4, 5, 6, 7, 8]⟩,
⟨none, .store 1 (.t 18) (.t 16), none, [10, 8, 0, 1, 2, 3, 4, 5, 6, 7, 8]⟩]
def f137.r2 : List IOper := [
⟨some 19, .faddr 1 1 (.t 4), none, []⟩,
⟨some 20, .load 1 false (.t 19), none, []⟩,
⟨some 21, .len .slice (.t 20), none, []⟩,
⟨some 22, .mv (.c (.d (.int .i64 0))), none, []⟩]
def f137.r3 : List IOper := [
⟨some 23, .bin .lss (.t 22) (.t 21), none, []⟩]
def f137.r4 : List IOper := [
⟨some 24, .iaddr 2 (.t 20) (.t 22), none, []⟩,
⟨some 25, .load 2 true (.t 24), none, []⟩,
⟨some 7, .alloc [.d (.str []), .d (.int .i64 0)], none, []⟩,
⟨none, .store 2 (.t 7) (.t 25), none, []⟩]
def f137.r5 : List IOper := [
⟨some 26, .mv (.t 0), none, []⟩,
⟨some 27, .nilchk (.t 26), none, [0]⟩,
⟨some 28, .faddr 1 1 (.t 27), none, [1]⟩,
⟨some 29, .load 1 false (.t 28), none, [2]⟩,
⟨some 30, .faddr 0 1 (.t 7), none, []⟩,
⟨some 31, .load 1 false (.t 30), none, [4]⟩,
⟨some 32, .lookup .str (.d (.int .i64 0)) false (.t 29) (.t 31), none, [3, 5]⟩,
⟨some 33, .mv (.t 2), none, []⟩,
⟨some 34, .faddr 1 1 (.t 7), none, []⟩,
⟨some 35, .load 1 false (.t 34), none, [8]⟩,
⟨some 36, .bin .mul (.t 33) (.t 35), none, [7, 9]⟩,
⟨some 37, .bin .add (.t 32) (.t 36), none, [6, 10]⟩,
⟨none, .mapUpd .str (.t 29) (.t 31) (.t 37), none, [3, 5, 11, 0, 1, 2, 3, 4, 5, 6, 7, 8, 9, 10, 11]⟩]
def f137.r6 : List IOper := [
⟨some 38, .bin .add (.t 22) (.c (.d (.int .i64 1))), none, []⟩,
⟨some 22, .mv (.t 38), none, []⟩]
def f137.l7 : IR := (.seq (.region f137.r3) (.seq (.cond (.t 23) .skip (.exit 0)) (.seq (.block 1 (.seq (.region f137.r4) (.draw f137.r5))) (.region f137.r6))))
def f137 : IFn := ⟨3, 39, [], (.seq (.region f137.r0) (.seq (.draw f137.r1) (.seq (.region f137.r2) (.block 0 (.loop f137.l7)))))⟩
def f138.r0 : List IOper := [
⟨some 2, .alloc [.d (.int .i64 0), .nils], none, []⟩,
⟨some 3, .mv (.c (.d (.int .i64 0))), none, []⟩]
def f138.r1 : List IOper := [
⟨some 10, .mv (.t 0), none, []⟩,
⟨some 11, .nilchk (.t 10), none, []⟩,
⟨some 12, .faddr 0 1 (.t 11), none, []⟩,
⟨some 13, .load 1 false (.t 12), none, []⟩,
⟨some 14, .build [.d (.int .i64 0), .nils] [(0, 1, (.t 13))], none, []⟩,
⟨some 4, .alloc [.d (.int .i64 0), .nils], none, []⟩,
⟨none, .store 2 (.t 4) (.t 14), none, []⟩]
def f138.r2 : List IOper := [
⟨some 5, .mv (.c (.nils)), none, []⟩]
def f138.r3 : List IOper := [
⟨some 15, .mv (.t 0), none, []⟩,
⟨some 16, .nilchk (.t 15), none, []⟩,
⟨some 17, .faddr 1 1 (.t 16), none, []⟩,
⟨some 18, .load 1 false (.t 17), none, []⟩,
⟨some 19, .range true (.t 18), none, []⟩]
def f138.r4 : List IOper := [
⟨some 20, .nextM (.t 19), none, []⟩,
⟨some 21, .ext (.t 20) 0, none, []⟩]
def f138.r5 : List IOper := [
⟨some 22, .entry (.t 19), none, []⟩,
⟨some 23, .ext (.t 22) 0, none, []⟩,
⟨some 24, .ext (.t 22) 1, none, []⟩,
⟨some 6, .mv (.t 23), none, []⟩,
⟨some 7, .mv (.t 24), none, []⟩]
def f138.r6 : List IOper := [
⟨some 25, .mv (.t 7), none, []⟩,
⟨some 26, .bin .neq (.t 25) (.c (.d (.int .i64 0))), none, []⟩]
def f138.r7 : List IOper := [
⟨some 27, .mv (.t 5), none, []⟩,
⟨some 28, .mv (.t 6), none, []⟩,
⟨some 29, .mkSlice 1 1 [.d (.str [])] [(0, 1, (.t 28))], none, []⟩,
⟨some 30, .append 1 16 (.t 27) (.t 29), none, []⟩,
⟨some 5, .mv (.t 30), none, []⟩]
def f138.l8 : IR := (.seq (.region f138.r4) (.seq (.cond (.t 21) .skip (.exit 0)) (.block 1 (.seq (.region f138.r5) (.seq (.region f138.r6) (.cond (.t 26) (.region f138.r7) .skip))))))
def f138.r9 : List IOper := [
⟨some 31, .mv (.t 5), none, []⟩,
⟨some 32, .call 61 [(.t 31)], none, []⟩]
def f138.r10 : List IOper := [
⟨some 33, .mv (.t 5), none, []⟩,
⟨some 34, .len .slice (.t 33), none, []⟩,
⟨some 35, .mv (.c (.d (.int .i64 0))), none, []⟩]
def f138.r11 : List IOper := [
⟨some 36, .bin .lss (.t 35) (.t 34), none, []⟩]
def f138.r12 : List IOper := [
⟨some 37, .iaddr 1 (.t 33) (.t 35), none, []⟩,
⟨some 38, .load 1 false (.t 37), none, []⟩,
⟨some 9, .mv (.t 38), none, []⟩]
def f138.r13 : List IOper := [
⟨some 39, .faddr 1 1 (.t 4), none, []⟩,
⟨some 40, .load 1 false (.t 39), none, [0]⟩,
⟨some 41, .mv (.t 9), none, []⟩,
⟨some 42, .mv (.t 0), none, []⟩,
⟨some 43, .nilchk (.t 42), none, [3]⟩,
⟨some 44, .faddr 1 1 (.t 43), none, [4]⟩,
⟨some 45, .load 1 false (.t 44), none, [5]⟩,
⟨some 46, .mv (.t 9), none, []⟩,
⟨some 47, .lookup .str (.d (.int .i64 0)) false (.t 45) (.t 46), none, [6, 7]⟩,
⟨some 48, .build [.d (.str []), .d (.int .i64 0)] [(0, 1, (.t 41)), (1, 1, (.t 47))], none, [2, 8]⟩,
⟨some 49, .mkSlice 2 1 [.d (.str []), .d (.int .i64 0)] [(0, 2, (.t 48))], none, [9]⟩,
⟨some 50, .append 2 24 (.t 40) (.t 49), none, [1, 10]⟩,
⟨some 51, .faddr 1 1 (.t 4), none, [0, 1, 2, 3, 4, 5, 6, 7, 8, 9, 10, 11]⟩,
⟨none, .store 1 (.t 51) (.t 50), none, [12, 11, 11, 0, 1, 2, 3, 4, 5, 6, 7, 8, 9, 10, 11]⟩]
def f138.r14 : List IOper := [
⟨some 52, .bin .add (.t 35) (.c (.d (.int .i64 1))), none, []⟩,
⟨some 35, .mv (.t 52), none, []⟩]
def f138.l15 : IR := (.seq (.region f138.r11) (.seq (.cond (.t 36) .skip (.exit 2)) (.seq (.block 3 (.seq (.region f138.r12) (.draw f138.r13))) (.region f138.r14))))
def f138.r16 : List IOper := [
⟨some 53, .load 2 true (.t 4), none, []⟩,
⟨some 54, .call 48 [(.t 53)], none, []⟩,
⟨some 55, .un .not (.t 54), none, []⟩]
def f138.r17 : List IOper := [
⟨some 56, .build [.d (.int .i64 0), .nils] [], none, []⟩,
⟨none, .store 2 (.t 2) (.t 56), none, []⟩,
⟨some 3, .mv (.c (.d (.int .i64 3))), none, []⟩]
def f138.r18 : List IOper := [
⟨some 57, .load 2 true (.t 4), none, []⟩,
⟨none, .store 2 (.t 2) (.t 57), none, []⟩,
⟨some 3, .mv (.c (.d (.int .i64 0))), none, []⟩]
def f138 : IFn := ⟨1, 58, [.cell 2 2 true, .t 3], (.seq (.region f138.r0) (.seq (.region f138.r1) (.seq (.region f138.r2) (.seq (.seq (.region f138.r3) (.block 0 (.loop f138.l8))) (.seq (.region f138.r9) (.seq (.seq (.region f138.r10) (.block 2 (.loop f138.l15))) (.seq (.seq (.region f138.r16) (.cond (.t 55) (.seq (.region f138.r17) .ret) .skip)) (.seq (.region f138.r18) .ret))))))))⟩
def f142.r0 : List IOper := [
⟨some 8, .mv (.t 1), none, []⟩,
⟨some 9, .bin .add (.t 8) (.c (.d (.int .i64 1))), none, []⟩,
⟨some 6, .mv (.t 9), none, []⟩]
def f142.r1 : List IOper := [
⟨some 10, .mv (.t 6), none, []⟩,
⟨some 11, .mv (.t 2), none, []⟩,
⟨some 12, .bin .lss (.t 10) (.t 11), none, []⟩]
def f142.r2 : List IOper := [
⟨some 15, .mv (.t 6), none, []⟩,
⟨some 7, .mv (.t 15), none, []⟩]
def f142.r3 : List IOper := [
⟨some 16, .mv (.t 7), none, []⟩,
⟨some 17, .mv (.t 1), none, []⟩,
⟨some 18, .bin .gtr (.t 16) (.t 17), none, [0, 1]⟩,
⟨some 19, .mv (.t 18), none, [2]⟩,
⟨some 20, .mv (.t 0), some (19, true), [3]⟩,
⟨some 21, .mv (.t 7), some (19, true), [3]⟩,
⟨some 22, .iaddr 1 (.t 20) (.t 21), some (19, true), [4, 5, 3]⟩,
⟨some 23, .load 1 false (.t 22), some (19, true), [6, 3]⟩,
⟨some 24, .mv (.t 0), some (19, true), [3]⟩,
⟨some 25, .mv (.t 7), some (19, true), [3]⟩,
⟨some 26, .bin .sub (.t 25) (.c (.d (.int .i64 1))), some (19, true), [9, 3]⟩,
⟨some 27, .iaddr 1 (.t 24) (.t 26), some (19, true), [8, 10, 3]⟩,
⟨some 28, .load 1 false (.t 27), some (19, true), [11, 3]⟩,
⟨some 29, .call 148 [(.t 23), (.t 28)], some (19, true), [7, 12, 3, 3]⟩,
⟨some 30, .pick (.t 19) (.t 29) (.c (.d (.bool false))), none, [3, 13]⟩]
def f142.r4 : List IOper := [
⟨some 33, .mv (.t 0), none, []⟩,
⟨some 34, .mv (.t 7), none, []⟩,
⟨some 35, .mv (.t 0), none, []⟩,
⟨some 36, .mv (.t 7), none, []⟩,
⟨some 37, .bin .sub (.t 36) (.c (.d (.int .i64 1))), none, [3]⟩,
⟨some 38, .mv (.t 0), none, []⟩,
⟨some 39, .mv (.t 7), none, []⟩,
⟨some 40, .bin .sub (.t 39) (.c (.d (.int .i64 1))), none, [6]⟩,
⟨some 41, .iaddr 1 (.t 38) (.t 40), none, [5, 7]⟩,
⟨some 42, .load 1 false (.t 41), none, [8]⟩,
⟨some 43, .mv (.t 0), none, []⟩,
⟨some 44, .mv (.t 7), none, []⟩,
⟨some 45, .iaddr 1 (.t 43) (.t 44), none, [10, 11]⟩,
⟨some 46, .load 1 false (.t 45), none, [12]⟩,
⟨some 47, .iaddr 1 (.t 33) (.t 34), none, [0, 1, 0, 1, 5, 6, 7, 8, 9, 13]⟩,
⟨none, .store 1 (.t 47) (.t 42), none, [14, 9, 0, 1, 5, 6, 7, 8, 9, 13]⟩,
⟨some 48, .iaddr 1 (.t 35) (.t 37), none, [2, 4, 0, 1, 2, 3, 4, 5, 6, 7, 8, 9, 10, 11, 12, 13, 14, 15]⟩,
⟨none, .store 1 (.t 48) (.t 46), none, [16, 13, 15, 0, 1, 2, 3, 4, 5, 6, 7, 8, 9, 10, 11, 12, 13, 14, 15]⟩]
def f142.r5 : List IOper := [
⟨some 31, .mv (.t 7), none, []⟩,
⟨some 32, .bin .sub (.t 31) (.c (.d (.int .i64 1))), none, []⟩,
⟨some 7, .mv (.t 32), none, []⟩]
def f142.l6 : IR := (.seq (.seq (.draw f142.r3) (.cond (.t 30) .skip (.exit 2))) (.seq (.block 3 (.draw f142.r4)) (.region f142.r5)))
def f142.r7 : List IOper := [
⟨some 13, .mv (.t 6), none, []⟩,
⟨some 14, .bin .add (.t 13) (.c (.d (.int .i64 1))), none, []⟩,
⟨some 6, .mv (.t 14), none, []⟩]
def f142.l8 : IR := (.seq (.seq (.region f142.r1) (.cond (.t 12) .skip (.exit 0))) (.seq (.block 1 (.seq (.region f142.r2) (.block 2 (.loop f142.l6)))) (.region f142.r7)))
def f142 : IFn := ⟨3, 49, [], (.seq (.region f142.r0) (.block 0 (.loop f142.l8)))⟩
def f152.r0 : List IOper := [
⟨some 2, .mv (.c (.d (.int .i64 0))), none, []⟩]
def f152.r1 : List IOper := [
⟨some 3, .mv (.t 0), none, []⟩,
⟨some 4, .bin .geq (.t 3) (.c (.d (.int .u64 4294967296))), none, []⟩]
def f152.r2 : List IOper := [
⟨some 5, .mv (.t 0), none, []⟩,
⟨some 6, .bin .shr (.t 5) (.c (.d (.int .u64 32))), none, []⟩,
⟨some 0, .mv (.t 6), none, []⟩]
def f152.r3 : List IOper := [
⟨some 2, .mv (.c (.d (.int .i64 32))), none, []⟩]
def f152.r4 : List IOper := [
⟨some 7, .mv (.t 0), none, []⟩,
⟨some 8, .bin .geq (.t 7) (.c (.d (.int .u64 65536))), none, []⟩]
def f152.r5 : List IOper := [
⟨some 9, .mv (.t 0), none, []⟩,
⟨some 10, .bin .shr (.t 9) (.c (.d (.int .u64 16))), none, []⟩,
⟨some 0, .mv (.t 10), none, []⟩]
def f152.r6 : List IOper := [
⟨some 11, .mv (.t 2), none, []⟩,
⟨some 12, .bin .add (.t 11) (.c (.d (.int .i64 16))), none, []⟩,
⟨some 2, .mv (.t 12), none, []⟩]
def f152.r7 : List IOper := [
⟨some 13, .mv (.t 0), none, []⟩,
⟨some 14, .bin .geq (.t 13) (.c (.d (.int .u64 256))), none, []⟩]
def f152.r8 : List IOper := [
⟨some 15, .mv (.t 0), none, []⟩,
⟨some 16, .bin .shr (.t 15) (.c (.d (.int .u64 8))), none, []⟩,
⟨some 0, .mv (.t 16), none, []⟩]
def f152.r9 : List IOper := [
⟨some 17, .mv (.t 2), none, []⟩,
⟨some 18, .bin .add (.t 17) (.c (.d (.int .i64 8))), none, []⟩,
⟨some 2, .mv (.t 18), none, []⟩]
def f152.r10 : List IOper := [
⟨some 19, .mv (.t 2), none, []⟩,
⟨some 20, .mv (.t 0), none, []⟩,
⟨some 21, .conv .u8 (.t 20), none, []⟩,
⟨some 22, .idxS (.c (.d (.str [0, 1, 2, 2, 3, 3, 3, 3, 4, 4, 4, 4, 4, 4, 4, 4, 5, 5, 5, 5, 5, 5, 5, 5, 5, 5, 5, 5, 5, 5, 5, 5, 6, 6, 6, 6, 6, 6, 6, 6, 6, 6, 6, 6, 6, 6, 6, 6, 6, 6, 6, 6, 6, 6, 6, 6, 6, 6, 6, 6, 6, 6, 6, 6, 7, 7, 7, 7, 7, 7, 7, 7, 7, 7, 7, 7, 7, 7, 7, 7, 7, 7, 7, 7, 7, 7, 7, 7, 7, 7, 7, 7, 7, 7, 7, 7, 7, 7, 7, 7, 7, 7, 7, 7, 7, 7, 7, 7, 7, 7, 7, 7, 7, 7, 7, 7, 7, 7, 7, 7, 7, 7, 7, 7, 7, 7, 7, 7, 8, 8, 8, 8, 8, 8, 8, 8, 8, 8, 8, 8, 8, 8, 8, 8, 8, 8, 8, 8, 8, 8, 8, 8, 8, 8, 8, 8, 8, 8, 8, 8, 8, 8, 8, 8, 8, 8, 8, 8, 8, 8, 8, 8, 8, 8, 8, 8, 8, 8, 8, 8, 8, 8, 8, 8, 8, 8, 8, 8, 8, 8, 8, 8, 8, 8, 8, 8, 8, 8, 8, 8, 8, 8, 8, 8, 8, 8, 8, 8, 8, 8, 8, 8, 8, 8, 8, 8, 8, 8, 8, 8, 8, 8, 8, 8, 8, 8, 8, 8, 8, 8, 8, 8, 8, 8, 8, 8, 8, 8, 8, 8, 8, 8, 8, 8, 8, 8, 8, 8, 8, 8, 8, 8, 8, 8, 8, 8]))) (.t 21), none, []⟩,
⟨some 23, .conv .i64 (.t 22), none, []⟩,
⟨some 24, .bin .add (.t 19) (.t 23), none, []⟩,
⟨some 2, .mv (.t 24), none, []⟩]
def f152 : IFn := ⟨1, 25, [.t 2], (.seq (.region f152.r0) (.seq (.seq (.region f152.r1) (.cond (.t 4) (.seq (.region f152.r2) (.region f152.r3)) .skip)) (.seq (.seq (.region f152.r4) (.cond (.t 8) (.seq (.region f152.r5) (.region f152.r6)) .skip)) (.seq (.seq (.region f152.r7) (.cond (.t 14) (.seq (.region f152.r8) (.region f152.r9)) .skip)) (.seq (.region f152.r10) .ret)))))⟩
def f153.r0 : List IOper := [
⟨some 4, .mv (.c (.d (.int .i64 0))), none, []⟩]
def f153.r1 : List IOper := [
⟨some 6, .mv (.t 0), none, []⟩,
⟨some 7, .len .slice (.t 6), none, []⟩,
⟨some 8, .mv (.c (.d (.int .i64 0))), none, []⟩]
def f153.r2 : List IOper := [
⟨some 9, .bin .lss (.t 8) (.t 7), none, []⟩]
def f153.r3 : List IOper := [
⟨some 10, .mv (.t 8), none, []⟩,
⟨some 5, .mv (.t 10), none, []⟩]
def f153.r4 : List IOper := [
⟨some 11, .mv (.t 1), none, []⟩,
⟨some 12, .mv (.t 0), none, []⟩,
⟨some 13, .mv (.t 5), none, []⟩,
⟨some 14, .iaddr 1 (.t 12) (.t 13), none, []⟩,
⟨some 15, .load 1 false (.t 14), none, []⟩,
⟨some 16, .bin .eql (.t 11) (.t 15), none, []⟩]
def f153.r5 : List IOper := [
⟨some 17, .mv (.t 5), none, []⟩,
⟨some 4, .mv (.t 17), none, []⟩]
def f153.r6 : List IOper := [
⟨some 18, .bin .add (.t 8) (.c (.d (.int .i64 1))), none, []⟩,
⟨some 8, .mv (.t 18), none, []⟩]
def f153.l7 : IR := (.seq (.region f153.r2) (.seq (.cond (.t 9) .skip (.exit 0)) (.seq (.block 1 (.seq (.region f153.r3) (.seq (.region f153.r4) (.cond (.t 16) (.seq (.region f153.r5) .ret) .skip)))) (.region f153.r6))))
def f153.r8 : List IOper := [
⟨some 4, .mv (.c (.d (.int .i64 (-1)))), none, []⟩]
def f153 : IFn := ⟨2, 19, [.t 4], (.seq (.region f153.r0) (.seq (.seq (.region f153.r1) (.block 0 (.loop f153.l7))) (.seq (.region f153.r8) .ret)))⟩
def f157.r0 : List IOper := [
⟨some 2, .alloc [.d (.str []), .nils], none, []⟩,
⟨some 3, .mv (.c (.d (.int .i64 0))), none, []⟩]
def f157.r1 : List IOper := [
⟨some 15, .mv (.t 0), none, []⟩,
⟨some 16, .call 97 [(.t 15), (.c (.d (.str [91])))], none, []⟩,
⟨some 14, .mv (.t 16), none, []⟩,
⟨some 17, .ext (.t 14) 0, none, []⟩,
⟨some 18, .ext (.t 14) 1, none, []⟩,
⟨some 4, .mv (.t 17), none, []⟩,
⟨some 5, .mv (.t 18), none, []⟩]
def f157.r2 : List IOper := [
⟨some 20, .mv (.t 4), none, []⟩,
⟨some 21, .call 193 [(.t 20), (.c (.d (.str [93])))], none, []⟩,
⟨some 19, .mv (.t 21), none, []⟩,
⟨some 22, .ext (.t 19) 0, none, []⟩,
⟨some 23, .ext (.t 19) 1, none, []⟩,
⟨some 4, .mv (.t 22), none, []⟩,
⟨some 6, .mv (.t 23), none, []⟩]
def f157.r3 : List IOper := [
⟨some 24, .mv (.t 5), none, []⟩,
⟨some 25, .un .not (.t 24), none, []⟩,
⟨some 26, .mv (.t 25), none, []⟩,
⟨some 27, .mv (.t 6), some (26, false), []⟩,
⟨some 28, .un .not (.t 27), some (26, false), []⟩,
⟨some 29, .pick (.t 26) (.c (.d (.bool true))) (.t 28), none, []⟩]
def f157.r4 : List IOper := [
⟨some 30, .build [.d (.str []), .nils] [], none, []⟩,
⟨none, .store 2 (.t 2) (.t 30), none, []⟩,
⟨some 3, .mv (.c (.d (.int .i64 6))), none, []⟩]
def f157.r5 : List IOper := [
⟨some 7, .alloc [.d (.str []), .nils], none, []⟩]
def f157.r6 : List IOper := [
⟨some 31, .mv (.t 4), none, []⟩,
⟨some 32, .call 100 [(.t 31), (.c (.d (.str [44, 32])))], none, []⟩,
⟨some 33, .len .slice (.t 32), none, []⟩,
⟨some 34, .mv (.c (.d (.int .i64 0))), none, []⟩]
def f157.r7 : List IOper := [
⟨some 35, .bin .lss (.t 34) (.t 33), none, []⟩]
def f157.r8 : List IOper := [
⟨some 36, .mv (.t 34), none, []⟩,
⟨some 37, .iaddr 1 (.t 32) (.t 34), none, []⟩,
⟨some 38, .load 1 false (.t 37), none, []⟩,
⟨some 8, .mv (.t 36), none, []⟩,
⟨some 9, .mv (.t 38), none, []⟩]
def f157.r9 : List IOper := [
⟨some 40, .mv (.t 9), none, []⟩,
⟨some 41, .call 193 [(.t 40), (.c (.d (.str [46, 46])))], none, []⟩,
⟨some 39, .mv (.t 41), none, []⟩,
⟨some 42, .ext (.t 39) 0, none, []⟩,
⟨some 43, .ext (.t 39) 1, none, []⟩,
⟨some 10, .mv (.t 42), none, []⟩,
⟨some 11, .mv (.t 43), none, []⟩]
def f157.r10 : List IOper := [
⟨some 44, .mv (.t 11), none, []⟩,
⟨some 45, .mv (.t 44), none, []⟩,
⟨some 46, .mv (.t 8), some (45, true), []⟩,
⟨some 47, .bin .eql (.t 46) (.c (.d (.int .i64 0))), some (45, true), []⟩,
⟨some 48, .pick (.t 45) (.t 47) (.c (.d (.bool false))), none, []⟩]
def f157.r11 : List IOper := [
⟨some 49, .mv (.t 10), none, []⟩,
⟨some 50, .faddr 0 1 (.t 7), none, []⟩,
⟨none, .store 1 (.t 50) (.t 49), none, []⟩]
def f157.r12 : List IOper := [
⟨some 52, .mv (.t 9), none, []⟩,
⟨some 53, .call 101 [(.t 52)], none, []⟩,
⟨some 51, .mv (.t 53), none, []⟩,
⟨some 54, .ext (.t 51) 0, none, []⟩,
⟨some 55, .ext (.t 51) 1, none, []⟩,
⟨some 12, .alloc [.d (.int .i64 0), .nils], none, []⟩,
⟨none, .store 2 (.t 12) (.t 54), none, []⟩,
⟨some 13, .mv (.t 55), none, []⟩]
def f157.r13 : List IOper := [
⟨some 56, .mv (.t 13), none, []⟩,
⟨some 57, .bin .neq (.t 56) (.c (.d (.int .i64 0))), none, []⟩,
⟨some 58, .mv (.t 57), none, []⟩,
⟨some 59, .mv (.t 4), some (58, true), []⟩,
⟨some 60, .bin .neq (.t 59) (.c (.d (.str []))), some (58, true), []⟩,
⟨some 61, .pick (.t 58) (.t 60) (.c (.d (.bool false))), none, []⟩]
def f157.r14 : List IOper := [
⟨some 62, .build [.d (.str []), .nils] [], none, []⟩,
⟨none, .store 2 (.t 2) (.t 62), none, []⟩,
⟨some 3, .mv (.c (.d (.int .i64 6))), none, []⟩]
def f157.r15 : List IOper := [
⟨some 63, .mv (.t 4), none, []⟩,
⟨some 64, .bin .neq (.t 63) (.c (.d (.str []))), none, []⟩]
def f157.r16 : List IOper := [
⟨some 65, .faddr 1 1 (.t 7), none, []⟩,
⟨some 66, .load 1 false (.t 65), none, []⟩,
⟨some 67, .load 2 true (.t 12), none, []⟩,
⟨some 68, .mkSlice 2 1 [.d (.int .i64 0), .nils] [(0, 2, (.t 67))], none, []⟩,
⟨some 69, .append 2 32 (.t 66) (.t 68), none, []⟩,
⟨some 70, .faddr 1 1 (.t 7), none, []⟩,
⟨none, .store 1 (.t 70) (.t 69), none, []⟩]
def f157.r17 : List IOper := [
⟨some 71, .bin .add (.t 34) (.c (.d (.int .i64 1))), none, []⟩,
⟨some 34, .mv (.t 71), none, []⟩]
def f157.l18 : IR := (.seq (.region f157.r7) (.seq (.cond (.t 35) .skip (.exit 0)) (.seq (.block 1 (.seq (.region f157.r8) (.seq (.seq (.region f157.r9) (.seq (.region f157.r10) (.cond (.t 48) (.seq (.region f157.r11) (.exit 1)) .skip))) (.seq (.region f157.r12) (.seq (.seq (.region f157.r13) (.cond (.t 61) (.seq (.region f157.r14) .ret) .skip)) (.seq (.region f157.r15) (.cond (.t 64) (.region f157.r16) .skip))))))) (.region f157.r17))))
def f157.r19 : List IOper := [
⟨some 72, .load 2 true (.t 7), none, []⟩,
⟨some 73, .call 175 [(.t 72)], none, []⟩,
⟨some 74, .un .not (.t 73), none, []⟩,
⟨some 75, .mv (.t 74), none, []⟩,
⟨some 76, .load 2 true (.t 7), some (75, false), []⟩,
⟨some 77, .call 194 [(.t 76)], some (75, false), []⟩,
⟨some 78, .mv (.t 0), some (75, false), []⟩,
⟨some 79, .bin .neq (.t 77) (.t 78), some (75, false), []⟩,
⟨some 80, .pick (.t 75) (.c (.d (.bool true))) (.t 79), none, []⟩]
def f157.r20 : List IOper := [
⟨some 81, .build [.d (.str []), .nils] [], none, []⟩,
⟨none, .store 2 (.t 2) (.t 81), none, []⟩,
⟨some 3, .mv (.c (.d (.int .i64 6))), none, []⟩]
def f157.r21 : List IOper := [
⟨some 82, .load 2 true (.t 7), none, []⟩,
⟨none, .store 2 (.t 2) (.t 82), none, []⟩,
⟨some 3, .mv (.c (.d (.int .i64 0))), none, []⟩]
def f157 : IFn := ⟨1, 83, [.cell 2 2 true, .t 3], (.seq (.region f157.r0) (.seq (.region f157.r1) (.seq (.region f157.r2) (.seq (.seq (.region f157.r3) (.cond (.t 29) (.seq (.region f157.r4) .ret) .skip)) (.seq (.region f157.r5) (.seq (.seq (.region f157.r6) (.block 0 (.loop f157.l18))) (.seq (.seq (.region f157.r19) (.cond (.t 80) (.seq (.region f157.r20) .ret) .skip)) (.seq (.region f157.r21) .ret))))))))⟩
def f158.r0 : List IOper := [
⟨some 1, .box 3 (.t 0), none, []⟩,
⟨some 2, .mv (.c (.d (.str []))), none, []⟩]
def f158.r1 : List IOper := [
⟨some 6, .faddr 1 2 (.t 1), none, []⟩,
⟨some 7, .load 2 true (.t 6), none, []⟩,
⟨some 8, .call 195 [(.t 7)], none, []⟩,
⟨some 5, .mv (.t 8), none, []⟩,
⟨some 9, .ext (.t 5) 0, none, []⟩,
⟨some 10, .ext (.t 5) 1, none, []⟩,
⟨some 3, .mv (.t 9), none, []⟩,
⟨some 4, .mv (.t 10), none, []⟩]
def f158.r2 : List IOper := [
⟨some 11, .mv (.t 3), none, []⟩,
⟨some 12, .bin .eql (.t 11) (.c (.d (.str [91, 93]))), none, []⟩]
def f158.r3 : List IOper := [
⟨some 13, .faddr 0 1 (.t 1), none, []⟩,
⟨some 14, .load 1 false (.t 13), none, []⟩,
⟨some 2, .mv (.t 14), none, []⟩]
def f158.r4 : List IOper := [
⟨some 15, .mv (.t 3), none, []⟩,
⟨some 16, .faddr 0 1 (.t 1), none, []⟩,
⟨some 17, .load 1 false (.t 16), none, []⟩,
⟨some 18, .bin .add (.t 15) (.t 17), none, []⟩,
⟨some 2, .mv (.t 18), none, []⟩]
def f158 : IFn := ⟨1, 19, [.t 2], (.seq (.region f158.r0) (.seq (.region f158.r1) (.seq (.seq (.region f158.r2) (.cond (.t 12) (.seq (.region f158.r3) .ret) .skip)) (.seq (.region f158.r4) .ret))))⟩
def f160.r0 : List IOper := [
⟨some 4, .mv (.c (.d (.bool false))), none, []⟩]
def f160.r1 : List IOper := [
⟨some 11, .mv (.t 0), none, []⟩,
⟨some 12, .nilchk (.t 11), none, []⟩,
⟨some 13, .faddr 0 1 (.t 12), none, []⟩,
⟨some 14, .load 1 false (.t 13), none, []⟩,
⟨some 15, .bin .eql (.t 14) (.c (.d (.str []))), none, []⟩]
def f160.r2 : List IOper := [
⟨some 4, .mv (.c (.d (.bool false))), none, []⟩]
def f160.r3 : List IOper := [
⟨some 16, .mv (.t 0), none, []⟩,
⟨some 17, .nilchk (.t 16), none, []⟩,
⟨some 18, .faddr 0 1 (.t 17), none, []⟩,
⟨some 19, .load 1 false (.t 18), none, []⟩,
⟨some 20, .idxS (.t 19) (.c (.d (.int .i64 0))), none, []⟩,
⟨some 21, .call 199 [(.t 20)], none, []⟩,
⟨some 22, .un .not (.t 21), none, []⟩]
def f160.r4 : List IOper := [
⟨some 24, .mv (.t 0), none, []⟩,
⟨some 25, .call 200 [(.t 24)], none, []⟩,
⟨some 23, .mv (.t 25), none, []⟩,
⟨some 26, .ext (.t 23) 0, none, []⟩,
⟨some 27, .ext (.t 23) 1, none, []⟩,
⟨some 5, .mv (.t 26), none, []⟩,
⟨some 6, .mv (.t 27), none, []⟩]
def f160.r5 : List IOper := [
⟨some 28, .mv (.t 0), none, []⟩,
⟨some 29, .nilchk (.t 28), none, []⟩,
⟨some 30, .faddr 1 2 (.t 29), none, []⟩,
⟨some 31, .faddr 1 1 (.t 30), none, []⟩,
⟨some 32, .load 1 false (.t 31), none, []⟩,
⟨some 33, .mv (.t 5), none, []⟩,
⟨some 34, .lookup .str (.d (.int .i64 0)) false (.t 32) (.t 33), none, []⟩,
⟨some 35, .mv (.t 1), none, []⟩,
⟨some 36, .bin .add (.t 34) (.t 35), none, []⟩,
⟨none, .mapUpd .str (.t 32) (.t 33) (.t 36), none, []⟩]
def f160.r6 : List IOper := [
⟨some 37, .mv (.t 6), none, []⟩,
⟨some 4, .mv (.t 37), none, []⟩]
def f160.r7 : List IOper := [
⟨some 39, .mv (.t 0), none, []⟩,
⟨some 40, .call 201 [(.t 39)], none, []⟩,
⟨some 38, .mv (.t 40), none, []⟩,
⟨some 41, .ext (.t 38) 0, none, []⟩,
⟨some 42, .ext (.t 38) 1, none, []⟩,
⟨some 7, .mv (.t 41), none, []⟩,
⟨some 8, .mv (.t 42), none, []⟩]
def f160.r8 : List IOper := [
⟨some 43, .mv (.t 8), none, []⟩,
⟨some 44, .un .not (.t 43), none, []⟩]
def f160.r9 : List IOper := [
⟨some 4, .mv (.c (.d (.bool false))), none, []⟩]
def f160.r10 : List IOper := [
⟨some 45, .mv (.t 0), none, []⟩,
⟨some 46, .nilchk (.t 45), none, []⟩,
⟨some 47, .faddr 0 1 (.t 46), none, []⟩,
⟨some 48, .load 1 false (.t 47), none, []⟩,
⟨some 49, .call 202 [(.t 48), (.c (.d (.str [32])))], none, []⟩,
⟨some 9, .mv (.t 49), none, []⟩]
def f160.r11 : List IOper := [
⟨some 51, .mv (.t 9), none, []⟩,
⟨some 52, .call 122 [(.t 51), (.c (.d (.str [42])))], none, []⟩,
⟨some 50, .mv (.t 52), none, []⟩]
def f160.r12 : List IOper := [
⟨some 53, .mv (.t 0), none, []⟩,
⟨some 54, .mv (.t 9), none, []⟩,
⟨some 55, .sslice (.t 54) (some (.c (.d (.int .i64 1)))) none, none, []⟩,
⟨some 56, .nilchk (.t 53), none, []⟩,
⟨some 57, .faddr 0 1 (.t 56), none, []⟩,
⟨none, .store 1 (.t 57) (.t 55), none, []⟩]
def f160.r13 : List IOper := [
⟨some 58, .mv (.t 0), none, []⟩,
⟨some 59, .call 161 [(.t 58)], none, []⟩]
def f160.r14 : List IOper := [
⟨some 61, .mv (.t 0), none, []⟩,
⟨some 62, .nilchk (.t 61), none, []⟩,
⟨some 63, .faddr 0 1 (.t 62), none, []⟩,
⟨some 64, .load 1 false (.t 63), none, []⟩,
⟨some 65, .bin .eql (.t 64) (.c (.d (.str []))), none, []⟩,
⟨some 66, .mv (.t 65), none, []⟩,
⟨some 67, .mv (.t 0), some (66, false), []⟩,
⟨some 68, .nilchk (.t 67), some (66, false), []⟩,
⟨some 69, .faddr 0 1 (.t 68), some (66, false), []⟩,
⟨some 70, .load 1 false (.t 69), some (66, false), []⟩,
⟨some 71, .idxS (.t 70) (.c (.d (.int .i64 0))), some (66, false), []⟩,
⟨some 72, .call 203 [(.t 71)], some (66, false), []⟩,
⟨some 73, .un .not (.t 72), some (66, false), []⟩,
⟨some 74, .pick (.t 66) (.c (.d (.bool true))) (.t 73), none, []⟩,
⟨some 60, .mv (.t 74), none, []⟩]
def f160.r15 : List IOper := [
⟨some 75, .mv (.t 0), none, []⟩,
⟨some 76, .nilchk (.t 75), none, []⟩,
⟨some 77, .faddr 1 2 (.t 76), none, []⟩,
⟨some 78, .faddr 0 1 (.t 77), none, []⟩,
⟨some 79, .load 1 false (.t 78), none, []⟩,
⟨some 80, .mv (.t 1), none, []⟩,
⟨some 81, .mv (.t 7), none, []⟩,
⟨some 82, .bin .mul (.t 80) (.t 81), none, []⟩,
⟨some 83, .bin .add (.t 79) (.t 82), none, []⟩,
⟨some 84, .nilchk (.t 75), none, []⟩,
⟨some 85, .faddr 1 2 (.t 84), none, []⟩,
⟨some 86, .faddr 0 1 (.t 85), none, []⟩,
⟨none, .store 1 (.t 86) (.t 83), none, []⟩]
def f160.r16 : List IOper := [
⟨some 4, .mv (.c (.d (.bool true))), none, []⟩]
def f160.r17 : List IOper := [
⟨some 88, .mv (.t 0), none, []⟩,
⟨some 89, .call 200 [(.t 88)], none, []⟩,
⟨some 87, .mv (.t 89), none, []⟩,
⟨some 90, .ext (.t 87) 0, none, []⟩,
⟨some 91, .ext (.t 87) 1, none, []⟩,
⟨some 10, .mv (.t 90), none, []⟩,
⟨some 8, .mv (.t 91), none, []⟩]
def f160.r18 : List IOper := [
⟨some 92, .mv (.t 0), none, []⟩,
⟨some 93, .nilchk (.t 92), none, []⟩,
⟨some 94, .faddr 1 2 (.t 93), none, []⟩,
⟨some 95, .faddr 1 1 (.t 94), none, []⟩,
⟨some 96, .load 1 false (.t 95), none, []⟩,
⟨some 97, .mv (.t 10), none, []⟩,
⟨some 98, .lookup .str (.d (.int .i64 0)) false (.t 96) (.t 97), none, []⟩,
⟨some 99, .mv (.t 1), none, []⟩,
⟨some 100, .mv (.t 7), none, []⟩,
⟨some 101, .bin .mul (.t 99) (.t 100), none, []⟩,
⟨some 102, .bin .add (.t 98) (.t 101), none, []⟩,
⟨none, .mapUpd .str (.t 96) (.t 97) (.t 102), none, []⟩]
def f160.r19 : List IOper := [
⟨some 103, .mv (.t 8), none, []⟩,
⟨some 4, .mv (.t 103), none, []⟩]
def f160 : IFn := ⟨2, 104, [.t 4], (.seq (.region f160.r0) (.seq (.seq (.region f160.r1) (.cond (.t 15) (.seq (.region f160.r2) .ret) .skip)) (.seq (.seq (.region f160.r3) (.cond (.t 22) (.seq (.region f160.r4) (.seq (.region f160.r5) (.seq (.region f160.r6) .ret))) .skip)) (.seq (.region f160.r7) (.seq (.seq (.region f160.r8) (.cond (.t 44) (.seq (.region f160.r9) .ret) .skip)) (.seq (.region f160.r10) (.seq (.block 0 (.seq (.region f160.r11) (.cond (.t 50) (.seq (.region f160.r12) (.region f160.r13)) (.seq (.region f160.r14) (.cond (.t 60) (.seq (.region f160.r15) (.seq (.region f160.r16) .ret)) .skip))))) (.seq (.region f160.r17) (.seq (.region f160.r18) (.seq (.region f160.r19) .ret))))))))))⟩
def f161.r0 : List IOper := [
⟨some 2, .mv (.t 0), none, []⟩,
⟨some 3, .mv (.t 0), none, []⟩,
⟨some 4, .nilchk (.t 3), none, []⟩,
⟨some 5, .faddr 0 1 (.t 4), none, []⟩,
⟨some 6, .load 1 false (.t 5), none, []⟩,
⟨some 7, .call 202 [(.t 6), (.c (.d (.str [32])))], none, []⟩,
⟨some 8, .nilchk (.t 2), none, []⟩,
⟨some 9, .faddr 0 1 (.t 8), none, []⟩,
⟨none, .store 1 (.t 9) (.t 7), none, []⟩]
def f161 : IFn := ⟨1, 10, [], (.region f161.r0)⟩
def f162.r0 : List IOper := [
⟨some 2, .mv (.c (.d (.int .i64 0))), none, []⟩,
⟨some 3, .mv (.c (.d (.bool false))), none, []⟩]
def f162.r1 : List IOper := [
⟨some 6, .build [.d (.str []), .d (.str [])] [(0, 1, (.c (.d (.str [43])))), (1, 1, (.c (.d (.str [45]))))], none, []⟩,
⟨some 7, .mv (.c (.d (.int .i64 0))), none, []⟩]
def f162.r2 : List IOper := [
⟨some 8, .bin .lss (.t 7) (.c (.d (.int .i64 2))), none, []⟩]
def f162.r3 : List IOper := [
⟨some 9, .mv (.t 7), none, []⟩,
⟨some 10, .idxA 2 1 false (.t 6) (.t 7), none, []⟩,
⟨some 4, .mv (.t 9), none, []⟩,
⟨some 5, .mv (.t 10), none, []⟩]
def f162.r4 : List IOper := [
⟨some 11, .mv (.t 0), none, []⟩,
⟨some 12, .nilchk (.t 11), none, []⟩,
⟨some 13, .faddr 0 1 (.t 12), none, []⟩,
⟨some 14, .load 1 false (.t 13), none, []⟩,
⟨some 15, .mv (.t 5), none, []⟩,
⟨some 16, .call 122 [(.t 14), (.t 15)], none, []⟩]
def f162.r5 : List IOper := [
⟨some 17, .mv (.t 0), none, []⟩,
⟨some 18, .mv (.t 0), none, []⟩,
⟨some 19, .nilchk (.t 18), none, []⟩,
⟨some 20, .faddr 0 1 (.t 19), none, []⟩,
⟨some 21, .load 1 false (.t 20), none, []⟩,
⟨some 22, .sslice (.t 21) (some (.c (.d (.int .i64 1)))) none, none, []⟩,
⟨some 23, .nilchk (.t 17), none, []⟩,
⟨some 24, .faddr 0 1 (.t 23), none, []⟩,
⟨none, .store 1 (.t 24) (.t 22), none, []⟩]
def f162.r6 : List IOper := [
⟨some 25, .mv (.t 4), none, []⟩,
⟨some 26, .bin .mul (.c (.d (.int .i64 2))) (.t 25), none, []⟩,
⟨some 27, .bin .sub (.c (.d (.int .i64 1))) (.t 26), none, []⟩,
⟨some 2, .mv (.t 27), none, []⟩,
⟨some 3, .mv (.c (.d (.bool true))), none, []⟩]
def f162.r7 : List IOper := [
⟨some 28, .bin .add (.t 7) (.c (.d (.int .i64 1))), none, []⟩,
⟨some 7, .mv (.t 28), none, []⟩]
def f162.l8 : IR := (.seq (.region f162.r2) (.seq (.cond (.t 8) .skip (.exit 0)) (.seq (.block 1 (.seq (.region f162.r3) (.seq (.region f162.r4) (.cond (.t 16) (.seq (.region f162.r5) (.seq (.region f162.r6) .ret)) .skip)))) (.region f162.r7))))
def f162.r9 : List IOper := [
⟨some 2, .mv (.c (.d (.int .i64 1))), none, []⟩,
⟨some 3, .mv (.c (.d (.bool false))), none, []⟩]
def f162 : IFn := ⟨1, 29, [.t 2, .t 3], (.seq (.region f162.r0) (.seq (.seq (.region f162.r1) (.block 0 (.loop f162.l8))) (.seq (.region f162.r9) .ret)))⟩
def f163.r0 : List IOper := [
⟨some 4, .mv (.c (.d (.str []))), none, []⟩]
def f163.r1 : List IOper := [
⟨some 5, .mv (.c (.nils)), none, []⟩]
def f163.r2 : List IOper := [
⟨some 8, .mv (.t 0), none, []⟩,
⟨some 9, .len .slice (.t 8), none, []⟩,
⟨some 10, .mv (.c (.d (.int .i64 0))), none, []⟩]
def f163.r3 : List IOper := [
⟨some 11, .bin .lss (.t 10) (.t 9), none, []⟩]
def f163.r4 : List IOper := [
⟨some 12, .iaddr 3 (.t 8) (.t 10), none, []⟩,
⟨some 13, .load 3 true (.t 12), none, []⟩,
⟨some 7, .alloc [.d (.str []), .d (.str []), .nils], none, []⟩,
⟨none, .store 3 (.t 7) (.t 13), none, []⟩]
def f163.r5 : List IOper := [
⟨some 14, .mv (.t 5), none, []⟩,
⟨some 15, .mv (.t 1), none, []⟩,
⟨some 16, .load 3 true (.t 7), none, []⟩,
⟨some 17, .callv (.t 15) [(.t 16)], none, []⟩,
⟨some 18, .mkSlice 1 1 [.d (.str [])] [(0, 1, (.t 17))], none, []⟩,
⟨some 19, .append 1 16 (.t 14) (.t 18), none, []⟩,
⟨some 5, .mv (.t 19), none, []⟩]
def f163.r6 : List IOper := [
⟨some 20, .bin .add (.t 10) (.c (.d (.int .i64 1))), none, []⟩,
⟨some 10, .mv (.t 20), none, []⟩]
def f163.l7 : IR := (.seq (.region f163.r3) (.seq (.cond (.t 11) .skip (.exit 0)) (.seq (.block 1 (.seq (.region f163.r4) (.region f163.r5))) (.region f163.r6))))
def f163.r8 : List IOper := [
⟨some 21, .mv (.t 5), none, []⟩,
⟨some 22, .call 204 [(.t 21), (.c (.d (.str [44, 32])))], none, []⟩,
⟨some 4, .mv (.t 22), none, []⟩]
def f163 : IFn := ⟨2, 23, [.t 4], (.seq (.region f163.r0) (.seq (.region f163.r1) (.seq (.seq (.region f163.r2) (.block 0 (.loop f163.l7))) (.seq (.region f163.r8) .ret))))⟩
def f164.r0 : List IOper := [
⟨some 4, .mv (.c (.d (.str []))), none, []⟩]
def f164.r1 : List IOper := [
⟨some 5, .mv (.c (.nils)), none, []⟩]
def f164.r2 : List IOper := [
⟨some 8, .mv (.t 0), none, []⟩,
⟨some 9, .len .slice (.t 8), none, []⟩,
⟨some 10, .mv (.c (.d (.int .i64 0))), none, []⟩]
def f164.r3 : List IOper := [
⟨some 11, .bin .lss (.t 10) (.t 9), none, []⟩]
def f164.r4 : List IOper := [
⟨some 12, .iaddr 2 (.t 8) (.t 10), none, []⟩,
⟨some 13, .load 2 true (.t 12), none, []⟩,
⟨some 7, .alloc [.d (.int .i64 0), .nils], none, []⟩,
⟨none, .store 2 (.t 7) (.t 13), none, []⟩]
def f164.r5 : List IOper := [
⟨some 14, .mv (.t 5), none, []⟩,
⟨some 15, .mv (.t 1), none, []⟩,
⟨some 16, .load 2 true (.t 7), none, []⟩,
⟨some 17, .callv (.t 15) [(.t 16)], none, []⟩,
⟨some 18, .mkSlice 1 1 [.d (.str [])] [(0, 1, (.t 17))], none, []⟩,
⟨some 19, .append 1 16 (.t 14) (.t 18), none, []⟩,
⟨some 5, .mv (.t 19), none, []⟩]
def f164.r6 : List IOper := [
⟨some 20, .bin .add (.t 10) (.c (.d (.int .i64 1))), none, []⟩,
⟨some 10, .mv (.t 20), none, []⟩]
def f164.l7 : IR := (.seq (.region f164.r3) (.seq (.cond (.t 11) .skip (.exit 0)) (.seq (.block 1 (.seq (.region f164.r4) (.region f164.r5))) (.region f164.r6))))
def f164.r8 : List IOper := [
⟨some 21, .mv (.t 5), none, []⟩,
⟨some 22, .call 204 [(.t 21), (.c (.d (.str [44, 32])))], none, []⟩,
⟨some 4, .mv (.t 22), none, []⟩]
def f164 : IFn := ⟨2, 23, [.t 4], (.seq (.region f164.r0) (.seq (.region f164.r1) (.seq (.seq (.region f164.r2) (.block 0 (.loop f164.l7))) (.seq (.region f164.r8) .ret))))⟩
def f165.r0 : List IOper := [
⟨some 1, .box 2 (.t 0), none, []⟩,
⟨some 2, .mv (.c (.d (.str []))), none, []⟩]
def f165.r1 : List IOper := [
⟨some 7, .load 2 true (.t 1), none, []⟩,
⟨some 8, .call 48 [(.t 7)], none, []⟩,
⟨some 9, .un .not (.t 8), none, []⟩]
def f165.r2 : List IOper := [
⟨some 2, .mv (.c (.d (.str []))), none, []⟩]
def f165.r3 : List IOper := [
⟨some 3, .alloc [.d (.str [])], none, []⟩,
⟨none, .store 1 (.t 3) (.c (.d (.str []))), none, []⟩]
def f165.r4 : List IOper := [
⟨some 10, .mkfunc 205 [] [(.t 3)], none, []⟩,
⟨some 4, .mv (.t 10), none, []⟩]
def f165.r5 : List IOper := [
⟨some 11, .faddr 1 1 (.t 1), none, []⟩,
⟨some 12, .load 1 false (.t 11), none, []⟩,
⟨some 13, .len .slice (.t 12), none, []⟩,
⟨some 14, .mv (.c (.d (.int .i64 0))), none, []⟩]
def f165.r6 : List IOper := [
⟨some 15, .bin .lss (.t 14) (.t 13), none, []⟩]
def f165.r7 : List IOper := [
⟨some 16, .iaddr 2 (.t 12) (.t 14), none, []⟩,
⟨some 17, .load 2 true (.t 16), none, []⟩,
⟨some 6, .alloc [.d (.str []), .d (.int .i64 0)], none, []⟩,
⟨none, .store 2 (.t 6) (.t 17), none, []⟩]
def f165.r8 : List IOper := [
⟨some 18, .mv (.t 4), none, []⟩,
⟨some 19, .faddr 1 1 (.t 6), none, []⟩,
⟨some 20, .load 1 false (.t 19), none, []⟩,
⟨some 21, .faddr 0 1 (.t 6), none, []⟩,
⟨some 22, .load 1 false (.t 21), none, []⟩,
⟨some 23, .callv (.t 18) [(.t 20), (.t 22)], none, []⟩]
def f165.r9 : List IOper := [
⟨some 24, .bin .add (.t 14) (.c (.d (.int .i64 1))), none, []⟩,
⟨some 14, .mv (.t 24), none, []⟩]
def f165.l10 : IR := (.seq (.region f165.r6) (.seq (.cond (.t 15) .skip (.exit 0)) (.seq (.block 1 (.seq (.region f165.r7) (.region f165.r8))) (.region f165.r9))))
def f165.r11 : List IOper := [
⟨some 25, .faddr 0 1 (.t 1), none, []⟩,
⟨some 26, .load 1 false (.t 25), none, []⟩,
⟨some 27, .bin .neq (.t 26) (.c (.d (.int .i64 0))), none, []⟩,
⟨some 28, .mv (.t 27), none, []⟩,
⟨some 29, .load 1 false (.t 3), some (28, false), []⟩,
⟨some 30, .bin .eql (.t 29) (.c (.d (.str []))), some (28, false), []⟩,
⟨some 31, .pick (.t 28) (.c (.d (.bool true))) (.t 30), none, []⟩]
def f165.r12 : List IOper := [
⟨some 32, .mv (.t 4), none, []⟩,
⟨some 33, .faddr 0 1 (.t 1), none, []⟩,
⟨some 34, .load 1 false (.t 33), none, []⟩,
⟨some 35, .callv (.t 32) [(.t 34), (.c (.d (.str [])))], none, []⟩]
def f165.r13 : List IOper := [
⟨some 36, .load 1 false (.t 3), none, []⟩,
⟨some 2, .mv (.t 36), none, []⟩]
def f165 : IFn := ⟨1, 37, [.t 2], (.seq (.region f165.r0) (.seq (.seq (.region f165.r1) (.cond (.t 9) (.seq (.region f165.r2) .ret) .skip)) (.seq (.region f165.r3) (.seq (.region f165.r4) (.seq (.seq (.region f165.r5) (.block 0 (.loop f165.l10))) (.seq (.seq (.region f165.r11) (.cond (.t 31) (.region f165.r12) .skip)) (.seq (.region f165.r13) .ret)))))))⟩
def f170.r0 : List IOper := [
⟨some 2, .mv (.c (.d (.int .i64 0))), none, []⟩]
def f170.r1 : List IOper := [
⟨some 3, .mv (.t 0), none, []⟩]
def f170.r2 : List IOper := [
⟨some 2, .mv (.c (.d (.int .i64 1))), none, []⟩]
def f170.r3 : List IOper := [
⟨some 2, .mv (.c (.d (.int .i64 0))), none, []⟩]
def f170 : IFn := ⟨1, 4, [.t 2], (.seq (.region f170.r0) (.seq (.seq (.region f170.r1) (.cond (.t 3) (.seq (.region f170.r2) .ret) .skip)) (.seq (.region f170.r3) .ret)))⟩
def f171.r0 : List IOper := [
⟨some 4, .mv (.c (.d (.int .i64 0))), none, []⟩]
def f171.r1 : List IOper := [
⟨some 6, .mv (.t 1), none, []⟩,
⟨some 7, .bin .eql (.t 6) (.c (.d (.int .i64 0))), none, []⟩]
def f171.r2 : List IOper := [
⟨some 4, .mv (.c (.d (.int .i64 0))), none, []⟩]
def f171.r3 : List IOper := [
⟨some 8, .mv (.t 0), none, []⟩,
⟨some 9, .mv (.t 1), none, []⟩,
⟨some 10, .bin .quo (.t 8) (.t 9), none, []⟩,
⟨some 5, .mv (.t 10), none, []⟩]
def f171.r4 : List IOper := [
⟨some 11, .mv (.t 0), none, []⟩,
⟨some 12, .mv (.t 1), none, []⟩,
⟨some 13, .bin .rem (.t 11) (.t 12), none, []⟩,
⟨some 14, .bin .neq (.t 13) (.c (.d (.int .i64 0))), none, []⟩,
⟨some 15, .mv (.t 14), none, []⟩,
⟨some 16, .mv (.t 0), some (15, true), []⟩,
⟨some 17, .bin .lss (.t 16) (.c (.d (.int .i64 0))), some (15, true), []⟩,
⟨some 18, .mv (.t 1), some (15, true), []⟩,
⟨some 19, .bin .lss (.t 18) (.c (.d (.int .i64 0))), some (15, true), []⟩,
⟨some 20, .eq true .bool (.t 17) (.t 19), some (15, true), []⟩,
⟨some 21, .pick (.t 15) (.t 20) (.c (.d (.bool false))), none, []⟩]
def f171.r5 : List IOper := [
⟨some 22, .mv (.t 5), none, []⟩,
⟨some 23, .bin .sub (.t 22) (.c (.d (.int .i64 1))), none, []⟩,
⟨some 5, .mv (.t 23), none, []⟩]
def f171.r6 : List IOper := [
⟨some 24, .mv (.t 5), none, []⟩,
⟨some 4, .mv (.t 24), none, []⟩]
def f171 : IFn := ⟨2, 25, [.t 4], (.seq (.region f171.r0) (.seq (.seq (.region f171.r1) (.cond (.t 7) (.seq (.region f171.r2) .ret) .skip)) (.seq (.region f171.r3) (.seq (.seq (.region f171.r4) (.cond (.t 21) (.region f171.r5) .skip)) (.seq (.region f171.r6) .ret)))))⟩
def f175.r0 : List IOper := [
⟨some 1, .box 2 (.t 0), none, []⟩,
⟨some 2, .mv (.c (.d (.bool false))), none, []⟩]
def f175.r1 : List IOper := [
⟨some 3, .faddr 0 1 (.t 1), none, []⟩,
⟨some 4, .load 1 false (.t 3), none, []⟩,
⟨some 5, .bin .eql (.t 4) (.c (.d (.str []))), none, []⟩,
⟨some 6, .mv (.t 5), none, []⟩,
⟨some 7, .faddr 0 1 (.t 1), some (6, false), []⟩,
⟨some 8, .load 1 false (.t 7), some (6, false), []⟩,
⟨some 9, .call 77 [(.t 8)], some (6, false), []⟩,
⟨some 10, .pick (.t 6) (.c (.d (.bool true))) (.t 9), none, []⟩,
⟨some 11, .mv (.t 10), none, []⟩,
⟨some 12, .faddr 1 1 (.t 1), some (11, true), []⟩,
⟨some 13, .load 1 false (.t 12), some (11, true), []⟩,
⟨some 14, .len .slice (.t 13), some (11, true), []⟩,
⟨some 15, .bin .leq (.t 14) (.c (.d (.int .i64 6))), some (11, true), []⟩,
⟨some 16, .pick (.t 11) (.t 15) (.c (.d (.bool false))), none, []⟩,
⟨some 17, .mv (.t 16), none, []⟩,
⟨some 18, .faddr 1 1 (.t 1), some (17, true), []⟩,
⟨some 19, .load 1 false (.t 18), some (17, true), []⟩,
⟨some 20, .call 127 [(.t 19), (.f 216)], some (17, true), []⟩,
⟨some 21, .un .not (.t 20), some (17, true), []⟩,
⟨some 22, .pick (.t 17) (.t 21) (.c (.d (.bool false))), none, []⟩,
⟨some 2, .mv (.t 22), none, []⟩]
def f175 : IFn := ⟨1, 23, [.t 2], (.seq (.region f175.r0) (.seq (.region f175.r1) .ret))⟩
def f176.r0 : List IOper := [
⟨some 4, .mv (.c (.d (.int .i64 0))), none, []⟩]
def f176.r1 : List IOper := [
⟨some 6, .mv (.t 0), none, []⟩,
⟨some 7, .len .slice (.t 6), none, []⟩,
⟨some 8, .mv (.c (.d (.int .i64 0))), none, []⟩]
def f176.r2 : List IOper := [
⟨some 9, .bin .lss (.t 8) (.t 7), none, []⟩]
def f176.r3 : List IOper := [
⟨some 10, .mv (.t 8), none, []⟩,
⟨some 5, .mv (.t 10), none, []⟩]
def f176.r4 : List IOper := [
⟨some 11, .mv (.t 1), none, []⟩,
⟨some 12, .mv (.t 0), none, []⟩,
⟨some 13, .mv (.t 5), none, []⟩,
⟨some 14, .iaddr 3 (.t 12) (.t 13), none, []⟩,
⟨some 15, .load 3 true (.t 14), none, []⟩,
⟨some 16, .callv (.t 11) [(.t 15)], none, []⟩]
def f176.r5 : List IOper := [
⟨some 17, .mv (.t 5), none, []⟩,
⟨some 4, .mv (.t 17), none, []⟩]
def f176.r6 : List IOper := [
⟨some 18, .bin .add (.t 8) (.c (.d (.int .i64 1))), none, []⟩,
⟨some 8, .mv (.t 18), none, []⟩]
def f176.l7 : IR := (.seq (.region f176.r2) (.seq (.cond (.t 9) .skip (.exit 0)) (.seq (.block 1 (.seq (.region f176.r3) (.seq (.region f176.r4) (.cond (.t 16) (.seq (.region f176.r5) .ret) .skip)))) (.region f176.r6))))
def f176.r8 : List IOper := [
⟨some 4, .mv (.c (.d (.int .i64 (-1)))), none, []⟩]
def f176 : IFn := ⟨2, 19, [.t 4], (.seq (.region f176.r0) (.seq (.seq (.region f176.r1) (.block 0 (.loop f176.l7))) (.seq (.region f176.r8) .ret)))⟩
def f177.r0 : List IOper := [
⟨some 4, .mv (.c (.d (.int .i64 0))), none, []⟩]
def f177.r1 : List IOper := [
⟨some 6, .mv (.t 0), none, []⟩,
⟨some 7, .len .slice (.t 6), none, []⟩,
⟨some 8, .mv (.c (.d (.int .i64 0))), none, []⟩]
def f177.r2 : List IOper := [
⟨some 9, .bin .lss (.t 8) (.t 7), none, []⟩]
def f177.r3 : List IOper := [
⟨some 10, .mv (.t 8), none, []⟩,
⟨some 5, .mv (.t 10), none, []⟩]
def f177.r4 : List IOper := [
⟨some 11, .mv (.t 1), none, []⟩,
⟨some 12, .mv (.t 0), none, []⟩,
⟨some 13, .mv (.t 5), none, []⟩,
⟨some 14, .iaddr 2 (.t 12) (.t 13), none, []⟩,
⟨some 15, .load 2 true (.t 14), none, []⟩,
⟨some 16, .callv (.t 11) [(.t 15)], none, []⟩]
def f177.r5 : List IOper := [
⟨some 17, .mv (.t 5), none, []⟩,
⟨some 4, .mv (.t 17), none, []⟩]
def f177.r6 : List IOper := [
⟨some 18, .bin .add (.t 8) (.c (.d (.int .i64 1))), none, []⟩,
⟨some 8, .mv (.t 18), none, []⟩]
def f177.l7 : IR := (.seq (.region f177.r2) (.seq (.cond (.t 9) .skip (.exit 0)) (.seq (.block 1 (.seq (.region f177.r3) (.seq (.region f177.r4) (.cond (.t 16) (.seq (.region f177.r5) .ret) .skip)))) (.region f177.r6))))
def f177.r8 : List IOper := [
⟨some 4, .mv (.c (.d (.int .i64 (-1)))), none, []⟩]
def f177 : IFn := ⟨2, 19, [.t 4], (.seq (.region f177.r0) (.seq (.seq (.region f177.r1) (.block 0 (.loop f177.l7))) (.seq (.region f177.r8) .ret)))⟩
def f178.r0 : List IOper := [
⟨some 3, .box 7 (.t 0), none, []⟩,
⟨some 4, .mv (.c (.d (.bool false))), none, []⟩]
def f178.r1 : List IOper := [
⟨some 5, .faddr 0 1 (.t 3), none, []⟩,
⟨some 6, .load 1 false (.t 5), none, []⟩,
⟨some 7, .load 1 false (.t 1), none, []⟩,
⟨some 8, .bin .eql (.t 6) (.t 7), none, []⟩,
⟨some 9, .mv (.t 8), none, []⟩,
⟨some 10, .faddr 1 1 (.t 3), some (9, true), []⟩,
⟨some 11, .load 1 false (.t 10), some (9, true), []⟩,
⟨some 12, .load 1 false (.t 2), some (9, true), []⟩,
⟨some 13, .bin .eql (.t 11) (.t 12), some (9, true), []⟩,
⟨some 14, .pick (.t 9) (.t 13) (.c (.d (.bool false))), none, []⟩,
⟨some 4, .mv (.t 14), none, []⟩]
def f178 : IFn := ⟨3, 15, [.t 4], (.seq (.region f178.r0) (.seq (.region f178.r1) .ret))⟩
def f179.r0 : List IOper := [
⟨some 4, .mv (.c (.d (.str []))), none, []⟩]
def f179.r1 : List IOper := [
⟨some 7, .mv (.t 0), none, []⟩,
⟨some 8, .bin .eql (.t 7) (.c (.d (.str []))), none, []⟩,
⟨some 9, .mv (.t 8), none, []⟩,
⟨some 10, .mv (.t 1), some (9, false), []⟩,
⟨some 11, .bin .eql (.t 10) (.c (.d (.str []))), some (9, false), []⟩,
⟨some 12, .pick (.t 9) (.c (.d (.bool true))) (.t 11), none, []⟩]
def f179.r2 : List IOper := [
⟨some 13, .mv (.t 0), none, []⟩,
⟨some 4, .mv (.t 13), none, []⟩]
def f179.r3 : List IOper := [
⟨some 14, .mv (.t 1), none, []⟩,
⟨some 15, .len .str (.t 14), none, []⟩,
⟨some 16, .bin .eql (.t 15) (.c (.d (.int .i64 1))), none, []⟩,
⟨some 17, .mv (.t 16), none, []⟩,
⟨some 18, .mv (.t 1), some (17, true), []⟩,
⟨some 19, .idxS (.t 18) (.c (.d (.int .i64 0))), some (17, true), []⟩,
⟨some 20, .bin .lss (.t 19) (.c (.d (.int .u8 128))), some (17, true), []⟩,
⟨some 21, .pick (.t 17) (.t 20) (.c (.d (.bool false))), none, []⟩]
def f179.r4 : List IOper := [
⟨some 22, .mv (.t 0), none, []⟩,
⟨some 23, .mv (.t 1), none, []⟩,
⟨some 24, .idxS (.t 23) (.c (.d (.int .i64 0))), none, [1]⟩,
⟨some 25, .call 218 [(.t 22), (.t 24)], none, [0, 2]⟩,
⟨some 26, .mv (.t 1), none, []⟩,
⟨some 27, .idxS (.t 26) (.c (.d (.int .i64 0))), none, [4]⟩,
⟨some 28, .call 217 [(.t 25), (.t 27)], none, [3, 5, 3]⟩,
⟨some 4, .mv (.t 28), none, [6, 6, 0, 1, 2, 3, 4, 5, 6]⟩]
def f179.r5 : List IOper := [
⟨some 30, .mv (.t 1), none, []⟩,
⟨some 31, .call 219 [(.t 30)], none, []⟩,
⟨some 29, .mv (.t 31), none, []⟩,
⟨some 32, .ext (.t 29) 0, none, []⟩,
⟨some 33, .ext (.t 29) 1, none, []⟩,
⟨some 5, .alloc [.d (.bool false), .d (.bool false), .d (.bool false), .d (.bool false), .d (.bool false), .d (.bool false), .d (.bool false), .d (.bool false), .d (.bool false), .d (.bool false), .d (.bool false), .d (.bool false), .d (.bool false), .d (.bool false), .d (.bool false), .d (.bool false), .d (.bool false), .d (.bool false), .d (.bool false), .d (.bool false), .d (.bool false), .d (.bool false), .d (.bool false), .d (.bool false), .d (.bool false), .d (.bool false), .d (.bool false), .d (.bool false), .d (.bool false), .d (.bool false), .d (.bool false), .d (.bool false), .d (.bool false), .d (.bool false), .d (.bool false), .d (.bool false), .d (.bool false), .d (.bool false), .d (.bool false), .d (.bool false), .d (.bool false), .d (.bool false), .d (.bool false), .d (.bool false), .d (.bool false), .d (.bool false), .d (.bool false), .d (.bool false), .d (.bool false), .d (.bool false), .d (.bool false), .d (.bool false), .d (.bool false), .d (.bool false), .d (.bool false), .d (.bool false), .d (.bool false), .d (.bool false), .d (.bool false), .d (.bool false), .d (.bool false), .d (.bool false), .d (.bool false), .d (.bool false), .d (.bool false), .d (.bool false), .d (.bool false), .d (.bool false), .d (.bool false), .d (.bool false), .d (.bool false), .d (.bool false), .d (.bool false), .d (.bool false), .d (.bool false), .d (.bool false), .d (.bool false), .d (.bool false), .d (.bool false), .d (.bool false), .d (.bool false), .d (.bool false), .d (.bool false), .d (.bool false), .d (.bool false), .d (.bool false), .d (.bool false), .d (.bool false), .d (.bool false), .d (.bool false), .d (.bool false), .d (.bool false), .d (.bool false), .d (.bool false), .d (.bool false), .d (.bool false), .d (.bool false), .d (.bool false), .d (.bool false), .d (.bool false), .d (.bool false), .d (.bool false), .d (.bool false), .d (.bool false), .d (.bool false), .d (.bool false), .d (.bool false), .d (.bool false), .d (.bool false), .d (.bool false), .d (.bool false), .d (.bool false), .d (.bool false), .d (.bool false), .d (.bool false), .d (.bool false), .d (.bool false), .d (.bool false), .d (.bool false), .d (.bool false), .d (.bool false), .d (.bool false), .d (.bool false), .d (.bool false), .d (.bool false), .d (.bool false), .d (.bool false), .d (.bool false), .d (.bool false), .d (.bool false), .d (.bool false), .d (.bool false), .d (.bool false), .d (.bool false), .d (.bool false), .d (.bool false), .d (.bool false), .d (.bool false), .d (.bool false), .d (.bool false), .d (.bool false), .d (.bool false), .d (.bool false), .d (.bool false), .d (.bool false), .d (.bool false), .d (.bool false), .d (.bool false), .d (.bool false), .d (.bool false), .d (.bool false), .d (.bool false), .d (.bool false), .d (.bool false), .d (.bool false), .d (.bool false), .d (.bool false), .d (.bool false), .d (.bool false), .d (.bool false), .d (.bool false), .d (.bool false), .d (.bool false), .d (.bool false), .d (.bool false), .d (.bool false), .d (.bool false), .d (.bool false), .d (.bool false), .d (.bool false), .d (.bool false), .d (.bool false), .d (.bool false), .d (.bool false), .d (.bool false), .d (.bool false), .d (.bool false), .d (.bool false), .d (.bool false), .d (.bool false), .d (.bool false), .d (.bool false), .d (.bool false), .d (.bool false), .d (.bool false), .d (.bool false), .d (.bool false), .d (.bool false), .d (.bool false), .d (.bool false), .d (.bool false), .d (.bool false), .d (.bool false), .d (.bool false), .d (.bool false), .d (.bool false), .d (.bool false), .d (.bool false), .d (.bool false), .d (.bool false), .d (.bool false), .d (.bool false), .d (.bool false), .d (.bool false), .d (.bool false), .d (.bool false), .d (.bool false), .d (.bool false), .d (.bool false), .d (.bool false), .d (.bool false), .d (.bool false), .d (.bool false), .d (.bool false), .d (.bool false), .d (.bool false), .d (.bool false), .d (.bool false), .d (.bool false), .d (.bool false), .d (.bool false), .d (.bool false), .d (.bool false), .d (.bool false), .d (.bool false), .d (.bool false), .d (.bool false), .d (.bool false), .d (.bool false), .d (.bool false), .d (.bool false), .d (.bool false), .d (.bool false), .d (.bool false), .d (.bool false), .d (.bool false), .d (.bool false), .d (.bool false), .d (.bool false), .d (.bool false), .d (.bool false), .d (.bool false), .d (.bool false), .d (.bool false), .d (.bool false), .d (.bool false), .d (.bool false), .d (.bool false), .d (.bool false), .d (.bool false), .d (.bool false), .d (.bool false), .d (.bool false), .d (.bool false), .d (.bool false), .d (.bool false)], none, []⟩,
⟨none, .store 256 (.t 5) (.t 32), none, []⟩,
⟨some 6, .mv (.t 33), none, []⟩]
def f179.r6 : List IOper := [
⟨some 34, .mv (.t 6), none, []⟩]
def f179.r7 : List IOper := [
⟨some 35, .mv (.t 0), none, []⟩,
⟨some 36, .call 221 [(.t 35), (.t 5)], none, []⟩,
⟨some 37, .call 220 [(.t 36), (.t 5)], none, []⟩,
⟨some 4, .mv (.t 37), none, []⟩]
def f179.r8 : List IOper := [
⟨some 38, .mv (.t 0), none, []⟩,
⟨some 39, .mv (.t 1), none, []⟩,
⟨some 40, .call 223 [(.t 38), (.t 39)], none, []⟩,
⟨some 41, .mv (.t 1), none, []⟩,
⟨some 42, .call 222 [(.t 40), (.t 41)], none, []⟩,
⟨some 4, .mv (.t 42), none, []⟩]
def f179 : IFn := ⟨2, 43, [.t 4], (.seq (.region f179.r0) (.seq (.seq (.region f179.r1) (.cond (.t 12) (.seq (.region f179.r2) .ret) .skip)) (.seq (.seq (.region f179.r3) (.cond (.t 21) (.seq (.draw f179.r4) .ret) .skip)) (.seq (.seq (.region f179.r5) (.seq (.region f179.r6) (.cond (.t 34) (.seq (.region f179.r7) .ret) .skip))) (.seq (.region f179.r8) .ret)))))⟩
def f180.r0 : List IOper := [
⟨some 3, .box 7 (.t 0), none, []⟩,
⟨some 4, .mv (.c (.d (.bool false))), none, []⟩]
def f180.r1 : List IOper := [
⟨some 5, .faddr 0 1 (.t 3), none, []⟩,
⟨some 6, .load 1 false (.t 5), none, []⟩,
⟨some 7, .load 1 false (.t 1), none, []⟩,
⟨some 8, .bin .eql (.t 6) (.t 7), none, []⟩,
⟨some 9, .mv (.t 8), none, []⟩,
⟨some 10, .faddr 1 1 (.t 3), some (9, true), []⟩,
⟨some 11, .load 1 false (.t 10), some (9, true), []⟩,
⟨some 12, .load 1 false (.t 2), some (9, true), []⟩,
⟨some 13, .bin .eql (.t 11) (.t 12), some (9, true), []⟩,
⟨some 14, .pick (.t 9) (.t 13) (.c (.d (.bool false))), none, []⟩,
⟨some 4, .mv (.t 14), none, []⟩]
def f180 : IFn := ⟨3, 15, [.t 4], (.seq (.region f180.r0) (.seq (.region f180.r1) .ret))⟩
def f181.r0 : List IOper := [
⟨some 2, .mv (.c (.nils)), none, []⟩]
def f181.r1 : List IOper := [
⟨some 3, .mv (.c (.nils)), none, []⟩]
def f181.r2 : List IOper := [
⟨some 6, .mv (.t 0), none, []⟩,
⟨some 7, .len .slice (.t 6), none, []⟩,
⟨some 8, .mv (.c (.d (.int .i64 0))), none, []⟩]
def f181.r3 : List IOper := [
⟨some 9, .bin .lss (.t 8) (.t 7), none, []⟩]
def f181.r4 : List IOper := [
⟨some 10, .iaddr 2 (.t 6) (.t 8), none, []⟩,
⟨some 11, .load 2 true (.t 10), none, []⟩,
⟨some 5, .alloc [.d (.int .i64 0), .nils], none, []⟩,
⟨none, .store 2 (.t 5) (.t 11), none, []⟩]
def f181.r5 : List IOper := [
⟨some 12, .mv (.t 3), none, []⟩,
⟨some 13, .faddr 0 1 (.t 5), none, []⟩,
⟨some 14, .load 1 false (.t 13), none, [1]⟩,
⟨some 15, .faddr 1 1 (.t 5), none, []⟩,
⟨some 16, .load 1 false (.t 15), none, [3]⟩,
⟨some 17, .call 224 [(.t 16)], none, [4]⟩,
⟨some 18, .build [.d (.int .i64 0), .nils] [(0, 1, (.t 14)), (1, 1, (.t 17))], none, [2, 5]⟩,
⟨some 19, .mkSlice 2 1 [.d (.int .i64 0), .nils] [(0, 2, (.t 18))], none, [6]⟩,
⟨some 20, .append 2 32 (.t 12) (.t 19), none, [0, 7, 5]⟩,
⟨some 3, .mv (.t 20), none, [8, 8, 0, 1, 2, 3, 4, 5, 6, 7, 8]⟩]
def f181.r6 : List IOper := [
⟨some 21, .bin .add (.t 8) (.c (.d (.int .i64 1))), none, []⟩,
⟨some 8, .mv (.t 21), none, []⟩]
def f181.l7 : IR := (.seq (.region f181.r3) (.seq (.cond (.t 9) .skip (.exit 0)) (.seq (.block 1 (.seq (.region f181.r4) (.draw f181.r5))) (.region f181.r6))))
def f181.r8 : List IOper := [
⟨some 22, .mv (.t 3), none, []⟩,
⟨some 2, .mv (.t 22), none, []⟩]
def f181 : IFn := ⟨1, 23, [.t 2], (.seq (.region f181.r0) (.seq (.region f181.r1) (.seq (.seq (.region f181.r2) (.block 0 (.loop f181.l7))) (.seq (.region f181.r8) .ret))))⟩
def f182.r0 : List IOper := [
⟨some 4, .alloc [.d (.str []), .nils], none, []⟩,
⟨some 5, .mv (.c (.d (.int .i64 0))), none, []⟩]
def f182.r1 : List IOper := [
⟨some 6, .mv (.t 1), none, []⟩,
⟨some 7, .len .slice (.t 6), none, []⟩,
⟨some 8, .bin .gtr (.t 7) (.c (.d (.int .i64 6))), none, []⟩]
def f182.r2 : List IOper := [
⟨some 9, .build [.d (.str []), .nils] [], none, []⟩,
⟨none, .store 2 (.t 4) (.t 9), none, []⟩,
⟨some 5, .mv (.c (.d (.int .i64 3))), none, []⟩]
def f182.r3 : List IOper := [
⟨some 10, .mv (.t 0), none, []⟩,
⟨some 11, .mv (.t 1), none, []⟩,
⟨some 12, .call 181 [(.t 11)], none, []⟩,
⟨some 13, .build [.d (.str []), .nils] [(0, 1, (.t 10)), (1, 1, (.t 12))], none, []⟩,
⟨none, .store 2 (.t 4) (.t 13), none, []⟩,
⟨some 5, .mv (.c (.d (.int .i64 0))), none, []⟩]
def f182 : IFn := ⟨2, 14, [.cell 4 2 true, .t 5], (.seq (.region f182.r0) (.seq (.seq (.region f182.r1) (.cond (.t 8) (.seq (.region f182.r2) .ret) .skip)) (.seq (.region f182.r3) .ret)))⟩
def f194.r0 : List IOper := [
⟨some 1, .box 2 (.t 0), none, []⟩,
⟨some 2, .mv (.c (.d (.str []))), none, []⟩]
def f194.r1 : List IOper := [
⟨some 3, .mv (.c (.nils)), none, []⟩]
def f194.r2 : List IOper := [
⟨some 6, .faddr 0 1 (.t 1), none, []⟩,
⟨some 7, .load 1 false (.t 6), none, []⟩,
⟨some 8, .bin .neq (.t 7) (.c (.d (.str []))), none, []⟩]
def f194.r3 : List IOper := [
⟨some 9, .mv (.t 3), none, []⟩,
⟨some 10, .faddr 0 1 (.t 1), none, []⟩,
⟨some 11, .load 1 false (.t 10), none, []⟩,
⟨some 12, .bin .add (.t 11) (.c (.d (.str [46, 46]))), none, []⟩,
⟨some 13, .mkSlice 1 1 [.d (.str [])] [(0, 1, (.t 12))], none, []⟩,
⟨some 14, .append 1 16 (.t 9) (.t 13), none, []⟩,
⟨some 3, .mv (.t 14), none, []⟩]
def f194.r4 : List IOper := [
⟨some 15, .faddr 1 1 (.t 1), none, []⟩,
⟨some 16, .load 1 false (.t 15), none, []⟩,
⟨some 17, .len .slice (.t 16), none, []⟩,
⟨some 18, .mv (.c (.d (.int .i64 0))), none, []⟩]
def f194.r5 : List IOper := [
⟨some 19, .bin .lss (.t 18) (.t 17), none, []⟩]
def f194.r6 : List IOper := [
⟨some 20, .iaddr 2 (.t 16) (.t 18), none, []⟩,
⟨some 21, .load 2 true (.t 20), none, []⟩,
⟨some 5, .alloc [.d (.int .i64 0), .nils], none, []⟩,
⟨none, .store 2 (.t 5) (.t 21), none, []⟩]
def f194.r7 : List IOper := [
⟨some 22, .mv (.t 3), none, []⟩,
⟨some 23, .load 2 true (.t 5), none, []⟩,
⟨some 24, .call 165 [(.t 23)], none, []⟩,
⟨some 25, .mkSlice 1 1 [.d (.str [])] [(0, 1, (.t 24))], none, []⟩,
⟨some 26, .append 1 16 (.t 22) (.t 25), none, []⟩,
⟨some 3, .mv (.t 26), none, []⟩]
def f194.r8 : List IOper := [
⟨some 27, .bin .add (.t 18) (.c (.d (.int .i64 1))), none, []⟩,
⟨some 18, .mv (.t 27), none, []⟩]
def f194.l9 : IR := (.seq (.region f194.r5) (.seq (.cond (.t 19) .skip (.exit 0)) (.seq (.block 1 (.seq (.region f194.r6) (.region f194.r7))) (.region f194.r8))))
def f194.r10 : List IOper := [
⟨some 28, .mv (.t 3), none, []⟩,
⟨some 29, .call 204 [(.t 28), (.c (.d (.str [44, 32])))], none, []⟩,
⟨some 30, .bin .add (.c (.d (.str [91]))) (.t 29), none, []⟩,
⟨some 31, .bin .add (.t 30) (.c (.d (.str [93]))), none, []⟩,
⟨some 2, .mv (.t 31), none, []⟩]
def f194 : IFn := ⟨1, 32, [.t 2], (.seq (.region f194.r0) (.seq (.region f194.r1) (.seq (.seq (.region f194.r2) (.cond (.t 8) (.region f194.r3) .skip)) (.seq (.seq (.region f194.r4) (.block 0 (.loop f194.l9))) (.seq (.region f194.r10) .ret)))))⟩
def f195.r0 : List IOper := [
⟨some 1, .box 2 (.t 0), none, []⟩,
⟨some 2, .mv (.c (.d (.str []))), none, []⟩,
⟨some 3, .mv (.c (.d (.int .i64 0))), none, []⟩]
def f195.r1 : List IOper := [
⟨some 4, .load 2 true (.t 1), none, []⟩,
⟨some 5, .call 175 [(.t 4)], none, []⟩,
⟨some 6, .un .not (.t 5), none, []⟩]
def f195.r2 : List IOper := [
⟨some 2, .mv (.c (.d (.str []))), none, []⟩,
⟨some 3, .mv (.c (.d (.int .i64 1))), none, []⟩]
def f195.r3 : List IOper := [
⟨some 7, .load 2 true (.t 1), none, []⟩,
⟨some 8, .call 194 [(.t 7)], none, []⟩,
⟨some 2, .mv (.t 8), none, []⟩,
⟨some 3, .mv (.c (.d (.int .i64 0))), none, []⟩]
def f195 : IFn := ⟨1, 9, [.t 2, .t 3], (.seq (.region f195.r0) (.seq (.seq (.region f195.r1) (.cond (.t 6) (.seq (.region f195.r2) .ret) .skip)) (.seq (.region f195.r3) .ret)))⟩
def f199.r0 : List IOper := [
⟨some 2, .mv (.c (.d (.bool false))), none, []⟩]
def f199.r1 : List IOper := [
⟨some 3, .mv (.t 0), none, []⟩,
⟨some 4, .bin .geq (.t 3) (.c (.d (.int .u8 48))), none, []⟩,
⟨some 5, .mv (.t 4), none, []⟩,
⟨some 6, .mv (.t 0), some (5, true), []⟩,
⟨some 7, .bin .leq (.t 6) (.c (.d (.int .u8 57))), some (5, true), []⟩,
⟨some 8, .pick (.t 5) (.t 7) (.c (.d (.bool false))), none, []⟩,
⟨some 2, .mv (.t 8), none, []⟩]
def f199 : IFn := ⟨1, 9, [.t 2], (.seq (.region f199.r0) (.seq (.region f199.r1) .ret))⟩
def f200.r0 : List IOper := [
⟨some 2, .mv (.c (.d (.str []))), none, []⟩,
⟨some 3, .mv (.c (.d (.bool false))), none, []⟩]
def f200.r1 : List IOper := [
⟨some 5, .mv (.t 0), none, []⟩,
⟨some 6, .call 234 [(.t 5), (.f 203)], none, []⟩,
⟨some 4, .mv (.t 6), none, []⟩]
def f200.r2 : List IOper := [
⟨some 7, .mv (.t 4), none, []⟩,
⟨some 8, .mv (.t 4), none, []⟩,
⟨some 9, .call 77 [(.t 8)], none, []⟩,
⟨some 2, .mv (.t 7), none, []⟩,
⟨some 3, .mv (.t 9), none, []⟩]
def f200 : IFn := ⟨1, 10, [.t 2, .t 3], (.seq (.region f200.r0) (.seq (.region f200.r1) (.seq (.region f200.r2) .ret)))⟩
def f201.r0 : List IOper := [
⟨some 2, .mv (.c (.d (.int .i64 0))), none, []⟩,
⟨some 3, .mv (.c (.d (.bool false))), none, []⟩]
def f201.r1 : List IOper := [
⟨some 7, .mv (.t 0), none, []⟩,
⟨some 8, .call 234 [(.t 7), (.f 199)], none, []⟩,
⟨some 4, .mv (.t 8), none, []⟩]
def f201.r2 : List IOper := [
⟨some 10, .mv (.t 4), none, []⟩,
⟨some 11, .call 123 [(.t 10)], none, []⟩,
⟨some 9, .mv (.t 11), none, []⟩,
⟨some 12, .ext (.t 9) 0, none, []⟩,
⟨some 13, .ext (.t 9) 1, none, []⟩,
⟨some 5, .mv (.t 12), none, []⟩,
⟨some 6, .mv (.t 13), none, []⟩]
def f201.r3 : List IOper := [
⟨some 14, .mv (.t 5), none, []⟩,
⟨some 15, .mv (.t 6), none, []⟩,
⟨some 16, .eq false .iface (.t 15) (.c (.nili)), none, []⟩,
⟨some 17, .mv (.t 16), none, []⟩,
⟨some 18, .mv (.t 4), some (17, true), []⟩,
⟨some 19, .len .str (.t 18), some (17, true), []⟩,
⟨some 20, .bin .leq (.t 19) (.c (.d (.int .i64 7))), some (17, true), []⟩,
⟨some 21, .pick (.t 17) (.t 20) (.c (.d (.bool false))), none, []⟩,
⟨some 22, .mv (.t 21), none, []⟩,
⟨some 23, .mv (.t 4), some (22, true), []⟩,
⟨some 24, .idxS (.t 23) (.c (.d (.int .i64 0))), some (22, true), []⟩,
⟨some 25, .bin .neq (.t 24) (.c (.d (.int .u8 48))), some (22, true), []⟩,
⟨some 26, .mv (.t 25), some (22, true), []⟩,
⟨some 27, .mv (.t 4), some (26, false), []⟩,
⟨some 28, .bin .eql (.t 27) (.c (.d (.str [48]))), some (26, false), []⟩,
⟨some 29, .pick (.t 26) (.c (.d (.bool true))) (.t 28), some (22, true), []⟩,
⟨some 30, .pick (.t 22) (.t 29) (.c (.d (.bool false))), none, []⟩,
⟨some 2, .mv (.t 14), none, []⟩,
⟨some 3, .mv (.t 30), none, []⟩]
def f201 : IFn := ⟨1, 31, [.t 2, .t 3], (.seq (.region f201.r0) (.seq (.region f201.r1) (.seq (.region f201.r2) (.seq (.region f201.r3) .ret))))⟩
def f203.r0 : List IOper := [
⟨some 2, .mv (.c (.d (.bool false))), none, []⟩]
def f203.r1 : List IOper := [
⟨some 3, .mv (.t 0), none, []⟩,
⟨some 4, .bin .geq (.t 3) (.c (.d (.int .u8 97))), none, []⟩,
⟨some 5, .mv (.t 4), none, []⟩,
⟨some 6, .mv (.t 0), some (5, true), []⟩,
⟨some 7, .bin .leq (.t 6) (.c (.d (.int .u8 122))), some (5, true), []⟩,
⟨some 8, .pick (.t 5) (.t 7) (.c (.d (.bool false))), none, []⟩,
⟨some 9, .mv (.t 8), none, []⟩,
⟨some 10, .mv (.t 0), some (9, false), []⟩,
⟨some 11, .bin .eql (.t 10) (.c (.d (.int .u8 95))), some (9, false), []⟩,
⟨some 12, .pick (.t 9) (.c (.d (.bool true))) (.t 11), none, []⟩,
⟨some 13, .mv (.t 12), none, []⟩,
⟨some 14, .mv (.t 0), some (13, false), []⟩,
⟨some 15, .call 199 [(.t 14)], some (13, false), []⟩,
⟨some 16, .pick (.t 13) (.c (.d (.bool true))) (.t 15), none, []⟩,
⟨some 2, .mv (.t 16), none, []⟩]
def f203 : IFn := ⟨1, 17, [.t 2], (.seq (.region f203.r0) (.seq (.region f203.r1) .ret))⟩
def f205.r0 : List IOper := [
⟨some 6, .mv (.t 0), none, []⟩,
⟨some 7, .call 64 [(.t 6)], none, []⟩,
⟨some 5, .mv (.t 7), none, []⟩]
def f205.r1 : List IOper := [
⟨some 8, .mv (.t 1), none, []⟩,
⟨some 9, .bin .neq (.t 8) (.c (.d (.str []))), none, []⟩,
⟨some 10, .mv (.t 9), none, []⟩,
⟨some 11, .mv (.t 0), some (10, true), []⟩,
⟨some 12, .bin .eql (.t 11) (.c (.d (.int .i64 1))), some (10, true), []⟩,
⟨some 13, .mv (.t 12), some (10, true), []⟩,
⟨some 14, .mv (.t 0), some (13, false), []⟩,
⟨some 15, .bin .eql (.t 14) (.c (.d (.int .i64 (-1)))), some (13, false), []⟩,
⟨some 16, .pick (.t 13) (.c (.d (.bool true))) (.t 15), some (10, true), []⟩,
⟨some 17, .pick (.t 10) (.t 16) (.c (.d (.bool false))), none, []⟩]
def f205.r2 : List IOper := [
⟨some 18, .mv (.t 5), none, []⟩,
⟨some 19, .call 206 [(.t 18), (.c (.d (.str [49])))], none, []⟩,
⟨some 5, .mv (.t 19), none, []⟩]
def f205.r3 : List IOper := [
⟨some 20, .mv (.t 0), none, []⟩,
⟨some 21, .bin .geq (.t 20) (.c (.d (.int .i64 0))), none, []⟩,
⟨some 22, .mv (.t 21), none, []⟩,
⟨some 23, .load 1 false (.t 2), some (22, true), []⟩,
⟨some 24, .bin .neq (.t 23) (.c (.d (.str []))), some (22, true), []⟩,
⟨some 25, .pick (.t 22) (.t 24) (.c (.d (.bool false))), none, []⟩]
def f205.r4 : List IOper := [
⟨some 26, .load 1 false (.t 2), none, []⟩,
⟨some 27, .bin .add (.t 26) (.c (.d (.str [43]))), none, []⟩,
⟨none, .store 1 (.t 2) (.t 27), none, []⟩]
def f205.r5 : List IOper := [
⟨some 28, .load 1 false (.t 2), none, []⟩,
⟨some 29, .mv (.t 5), none, []⟩,
⟨some 30, .mv (.t 1), none, []⟩,
⟨some 31, .bin .add (.t 29) (.t 30), none, []⟩,
⟨some 32, .bin .add (.t 28) (.t 31), none, []⟩,
⟨none, .store 1 (.t 2) (.t 32), none, []⟩]
def f205 : IFn := ⟨3, 33, [], (.seq (.region f205.r0) (.seq (.seq (.region f205.r1) (.cond (.t 17) (.region f205.r2) .skip)) (.seq (.seq (.region f205.r3) (.cond (.t 25) (.region f205.r4) .skip)) (.region f205.r5))))⟩
def f216.r0 : List IOper := [
⟨some 1, .box 2 (.t 0), none, []⟩,
⟨some 2, .mv (.c (.d (.bool false))), none, []⟩]
def f216.r1 : List IOper := [
⟨some 3, .load 2 true (.t 1), none, []⟩,
⟨some 4, .call 48 [(.t 3)], none, []⟩,
⟨some 5, .un .not (.t 4), none, []⟩,
⟨some 2, .mv (.t 5), none, []⟩]
def f216 : IFn := ⟨1, 6, [.t 2], (.seq (.region f216.r0) (.seq (.region f216.r1) .ret))⟩
def f224.r0 : List IOper := [
⟨some 2, .mv (.c (.nils)), none, []⟩]
def f224.r1 : List IOper := [
⟨some 3, .mv (.t 0), none, []⟩,
⟨some 4, .eq false .slice (.t 3) (.c (.nils)), none, []⟩]
def f224.r2 : List IOper := [
⟨some 2, .mv (.c (.nils)), none, []⟩]
def f224.r3 : List IOper := [
⟨some 5, .mkSlice 2 0 [] [], none, []⟩,
⟨some 6, .mv (.t 0), none, []⟩,
⟨some 7, .append 2 24 (.t 5) (.t 6), none, []⟩,
⟨some 2, .mv (.t 7), none, []⟩]
def f224 : IFn := ⟨1, 8, [.t 2], (.seq (.region f224.r0) (.seq (.seq (.region f224.r1) (.cond (.t 4) (.seq (.region f224.r2) .ret) .skip)) (.seq (.region f224.r3) .ret)))⟩
def f234.r0 : List IOper := [
⟨some 4, .mv (.c (.d (.str []))), none, []⟩]
def f234.r1 : List IOper := [
⟨some 5, .mv (.c (.d (.int .i64 0))), none, []⟩]
def f234.r2 : List IOper := [
⟨some 7, .mv (.t 5), none, []⟩,
⟨some 8, .mv (.t 0), none, []⟩,
⟨some 9, .nilchk (.t 8), none, []⟩,
⟨some 10, .faddr 0 1 (.t 9), none, []⟩,
⟨some 11, .load 1 false (.t 10), none, []⟩,
⟨some 12, .len .str (.t 11), none, []⟩,
⟨some 13, .bin .lss (.t 7) (.t 12), none, []⟩,
⟨some 14, .mv (.t 13), none, []⟩,
⟨some 15, .mv (.t 1), some (14, true), []⟩,
⟨some 16, .mv (.t 0), some (14, true), []⟩,
⟨some 17, .nilchk (.t 16), some (14, true), []⟩,
⟨some 18, .faddr 0 1 (.t 17), some (14, true), []⟩,
⟨some 19, .load 1 false (.t 18), some (14, true), []⟩,
⟨some 20, .mv (.t 5), some (14, true), []⟩,
⟨some 21, .idxS (.t 19) (.t 20), some (14, true), []⟩,
⟨some 22, .callv (.t 15) [(.t 21)], some (14, true), []⟩,
⟨some 23, .pick (.t 14) (.t 22) (.c (.d (.bool false))), none, []⟩]
def f234.r3 : List IOper := [
⟨some 24, .mv (.t 5), none, []⟩,
⟨some 25, .bin .add (.t 24) (.c (.d (.int .i64 1))), none, []⟩,
⟨some 5, .mv (.t 25), none, []⟩]
def f234.l4 : IR := (.seq (.seq (.region f234.r2) (.cond (.t 23) .skip (.exit 0))) (.block 1 (.region f234.r3)))
def f234.r5 : List IOper := [
⟨some 26, .mv (.t 0), none, []⟩,
⟨some 27, .nilchk (.t 26), none, []⟩,
⟨some 28, .faddr 0 1 (.t 27), none, []⟩,
⟨some 29, .load 1 false (.t 28), none, []⟩,
⟨some 30, .mv (.t 5), none, []⟩,
⟨some 31, .sslice (.t 29) none (some (.t 30)), none, []⟩,
⟨some 6, .mv (.t 31), none, []⟩]
def f234.r6 : List IOper := [
⟨some 32, .mv (.t 0), none, []⟩,
⟨some 33, .mv (.t 0), none, []⟩,
⟨some 34, .nilchk (.t 33), none, []⟩,
⟨some 35, .faddr 0 1 (.t 34), none, []⟩,
⟨some 36, .load 1 false (.t 35), none, []⟩,
⟨some 37, .mv (.t 5), none, []⟩,
⟨some 38, .sslice (.t 36) (some (.t 37)) none, none, []⟩,
⟨some 39, .nilchk (.t 32), none, []⟩,
⟨some 40, .faddr 0 1 (.t 39), none, []⟩,
⟨none, .store 1 (.t 40) (.t 38), none, []⟩]
def f234.r7 : List IOper := [
⟨some 41, .mv (.t 6), none, []⟩,
⟨some 4, .mv (.t 41), none, []⟩]
def f234 : IFn := ⟨2, 42, [.t 4], (.seq (.region f234.r0) (.seq (.region f234.r1) (.seq (.block 0 (.loop f234.l4)) (.seq (.region f234.r5) (.seq (.region f234.r6) (.seq (.region f234.r7) .ret))))))⟩

end Fw.X
