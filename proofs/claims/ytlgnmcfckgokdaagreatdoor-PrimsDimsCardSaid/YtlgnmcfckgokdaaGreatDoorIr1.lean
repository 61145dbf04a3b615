/- Code of the program's functions, as operations of the abstract machine. -/
import Derived.Test.YtlgnmcfckgokdaaGreatDoorFa
namespace Fw.X
open Go
def f160.r0 : List IOper := [
⟨some 4, .mv (.c (.d (.bool false))), none, []⟩]
def f160.r1 : List IOper := [
⟨some 11, .mv (.t 0), none, []⟩,
⟨some 12, .nilchk (.t 11), none, []⟩,
⟨some 13, .faddr 0 1 (.t 12), none, []⟩,
⟨some 14, .load 1 false (.t 13), none, []⟩,
⟨some 15, .bin .eql (.t 14) (.c (.d (.str []))), none, []⟩]
def f160.r2 : List IOper := [
⟨some 4, .mv (.c (.d (.bool false))), none, []⟩]
def f160.r3 : List IOper := [
⟨some 16, .mv (.t 0), none, []⟩,
⟨some 17, .nilchk (.t 16), none, []⟩,
⟨some 18, .faddr 0 1 (.t 17), none, []⟩,
⟨some 19, .load 1 false (.t 18), none, []⟩,
⟨some 20, .idxS (.t 19) (.c (.d (.int .i64 0))), none, []⟩,
⟨some 21, .call 199 [(.t 20)], none, []⟩,
⟨some 22, .un .not (.t 21), none, []⟩]
def f160.r4 : List IOper := [
⟨some 24, .mv (.t 0), none, []⟩,
⟨some 25, .call 200 [(.t 24)], none, []⟩,
⟨some 23, .mv (.t 25), none, []⟩,
⟨some 26, .ext (.t 23) 0, none, []⟩,
⟨some 27, .ext (.t 23) 1, none, []⟩,
⟨some 5, .mv (.t 26), none, []⟩,
⟨some 6, .mv (.t 27), none, []⟩]
def f160.r5 : List IOper := [
⟨some 28, .mv (.t 0), none, []⟩,
⟨some 29, .nilchk (.t 28), none, []⟩,
⟨some 30, .faddr 1 2 (.t 29), none, []⟩,
⟨some 31, .faddr 1 1 (.t 30), none, []⟩,
⟨some 32, .load 1 false (.t 31), none, []⟩,
⟨some 33, .mv (.t 5), none, []⟩,
⟨some 34, .lookup .str (.d (.int .i64 0)) false (.t 32) (.t 33), none, []⟩,
⟨some 35, .mv (.t 1), none, []⟩,
⟨some 36, .bin .add (.t 34) (.t 35), none, []⟩,
⟨none, .mapUpd .str (.t 32) (.t 33) (.t 36), none, []⟩]
def f160.r6 : List IOper := [
⟨some 37, .mv (.t 6), none, []⟩,
⟨some 4, .mv (.t 37), none, []⟩]
def f160.r7 : List IOper := [
⟨some 39, .mv (.t 0), none, []⟩,
⟨some 40, .call 201 [(.t 39)], none, []⟩,
⟨some 38, .mv (.t 40), none, []⟩,
⟨some 41, .ext (.t 38) 0, none, []⟩,
⟨some 42, .ext (.t 38) 1, none, []⟩,
⟨some 7, .mv (.t 41), none, []⟩,
⟨some 8, .mv (.t 42), none, []⟩]
def f160.r8 : List IOper := [
⟨some 43, .mv (.t 8), none, []⟩,
⟨some 44, .un .not (.t 43), none, []⟩]
def f160.r9 : List IOper := [
⟨some 4, .mv (.c (.d (.bool false))), none, []⟩]
def f160.r10 : List IOper := [
⟨some 45, .mv (.t 0), none, []⟩,
⟨some 46, .nilchk (.t 45), none, []⟩,
⟨some 47, .faddr 0 1 (.t 46), none, []⟩,
⟨some 48, .load 1 false (.t 47), none, []⟩,
⟨some 49, .call 202 [(.t 48), (.c (.d (.str [32])))], none, []⟩,
⟨some 9, .mv (.t 49), none, []⟩]
def f160.r11 : List IOper := [
⟨some 51, .mv (.t 9), none, []⟩,
⟨some 52, .call 122 [(.t 51), (.c (.d (.str [42])))], none, []⟩,
⟨some 50, .mv (.t 52), none, []⟩]
def f160.r12 : List IOper := [
⟨some 53, .mv (.t 0), none, []⟩,
⟨some 54, .mv (.t 9), none, []⟩,
⟨some 55, .sslice (.t 54) (some (.c (.d (.int .i64 1)))) none, none, []⟩,
⟨some 56, .nilchk (.t 53), none, []⟩,
⟨some 57, .faddr 0 1 (.t 56), none, []⟩,
⟨none, .store 1 (.t 57) (.t 55), none, []⟩]
def f160.r13 : List IOper := [
⟨some 58, .mv (.t 0), none, []⟩,
⟨some 59, .call 161 [(.t 58)], none, []⟩]
def f160.r14 : List IOper := [
⟨some 61, .mv (.t 0), none, []⟩,
⟨some 62, .nilchk (.t 61), none, []⟩,
⟨some 63, .faddr 0 1 (.t 62), none, []⟩,
⟨some 64, .load 1 false (.t 63), none, []⟩,
⟨some 65, .bin .eql (.t 64) (.c (.d (.str []))), none, []⟩,
⟨some 66, .mv (.t 65), none, []⟩,
⟨some 67, .mv (.t 0), some (66, false), []⟩,
⟨some 68, .nilchk (.t 67), some (66, false), []⟩,
⟨some 69, .faddr 0 1 (.t 68), some (66, false), []⟩,
⟨some 70, .load 1 false (.t 69), some (66, false), []⟩,
⟨some 71, .idxS (.t 70) (.c (.d (.int .i64 0))), some (66, false), []⟩,
⟨some 72, .call 203 [(.t 71)], some (66, false), []⟩,
⟨some 73, .un .not (.t 72), some (66, false), []⟩,
⟨some 74, .pick (.t 66) (.c (.d (.bool true))) (.t 73), none, []⟩,
⟨some 60, .mv (.t 74), none, []⟩]
def f160.r15 : List IOper := [
⟨some 75, .mv (.t 0), none, []⟩,
⟨some 76, .nilchk (.t 75), none, []⟩,
⟨some 77, .faddr 1 2 (.t 76), none, []⟩,
⟨some 78, .faddr 0 1 (.t 77), none, []⟩,
⟨some 79, .load 1 false (.t 78), none, []⟩,
⟨some 80, .mv (.t 1), none, []⟩,
⟨some 81, .mv (.t 7), none, []⟩,
⟨some 82, .bin .mul (.t 80) (.t 81), none, []⟩,
⟨some 83, .bin .add (.t 79) (.t 82), none, []⟩,
⟨some 84, .nilchk (.t 75), none, []⟩,
⟨some 85, .faddr 1 2 (.t 84), none, []⟩,
⟨some 86, .faddr 0 1 (.t 85), none, []⟩,
⟨none, .store 1 (.t 86) (.t 83), none, []⟩]
def f160.r16 : List IOper := [
⟨some 4, .mv (.c (.d (.bool true))), none, []⟩]
def f160.r17 : List IOper := [
⟨some 88, .mv (.t 0), none, []⟩,
⟨some 89, .call 200 [(.t 88)], none, []⟩,
⟨some 87, .mv (.t 89), none, []⟩,
⟨some 90, .ext (.t 87) 0, none, []⟩,
⟨some 91, .ext (.t 87) 1, none, []⟩,
⟨some 10, .mv (.t 90), none, []⟩,
⟨some 8, .mv (.t 91), none, []⟩]
def f160.r18 : List IOper := [
⟨some 92, .mv (.t 0), none, []⟩,
⟨some 93, .nilchk (.t 92), none, []⟩,
⟨some 94, .faddr 1 2 (.t 93), none, []⟩,
⟨some 95, .faddr 1 1 (.t 94), none, []⟩,
⟨some 96, .load 1 false (.t 95), none, []⟩,
⟨some 97, .mv (.t 10), none, []⟩,
⟨some 98, .lookup .str (.d (.int .i64 0)) false (.t 96) (.t 97), none, []⟩,
⟨some 99, .mv (.t 1), none, []⟩,
⟨some 100, .mv (.t 7), none, []⟩,
⟨some 101, .bin .mul (.t 99) (.t 100), none, []⟩,
⟨some 102, .bin .add (.t 98) (.t 101), none, []⟩,
⟨none, .mapUpd .str (.t 96) (.t 97) (.t 102), none, []⟩]
def f160.r19 : List IOper := [
⟨some 103, .mv (.t 8), none, []⟩,
⟨some 4, .mv (.t 103), none, []⟩]
def f160 : IFn := ⟨2, 104, [.t 4], (.seq (.region f160.r0) (.seq (.seq (.region f160.r1) (.cond (.t 15) (.seq (.region f160.r2) .ret) .skip)) (.seq (.seq (.region f160.r3) (.cond (.t 22) (.seq (.region f160.r4) (.seq (.region f160.r5) (.seq (.region f160.r6) .ret))) .skip)) (.seq (.region f160.r7) (.seq (.seq (.region f160.r8) (.cond (.t 44) (.seq (.region f160.r9) .ret) .skip)) (.seq (.region f160.r10) (.seq (.block 0 (.seq (.region f160.r11) (.cond (.t 50) (.seq (.region f160.r12) (.region f160.r13)) (.seq (.region f160.r14) (.cond (.t 60) (.seq (.region f160.r15) (.seq (.region f160.r16) .ret)) .skip))))) (.seq (.region f160.r17) (.seq (.region f160.r18) (.seq (.region f160.r19) .ret))))))))))⟩
def f161.r0 : List IOper := [
⟨some 2, .mv (.t 0), none, []⟩,
⟨some 3, .mv (.t 0), none, []⟩,
⟨some 4, .nilchk (.t 3), none, []⟩,
⟨some 5, .faddr 0 1 (.t 4), none, []⟩,
⟨some 6, .load 1 false (.t 5), none, []⟩,
⟨some 7, .call 202 [(.t 6), (.c (.d (.str [32])))], none, []⟩,
⟨some 8, .nilchk (.t 2), none, []⟩,
⟨some 9, .faddr 0 1 (.t 8), none, []⟩,
⟨none, .store 1 (.t 9) (.t 7), none, []⟩]
def f161 : IFn := ⟨1, 10, [], (.region f161.r0)⟩
def f162.r0 : List IOper := [
⟨some 2, .mv (.c (.d (.int .i64 0))), none, []⟩,
⟨some 3, .mv (.c (.d (.bool false))), none, []⟩]
def f162.r1 : List IOper := [
⟨some 6, .build [.d (.str []), .d (.str [])] [(0, 1, (.c (.d (.str [43])))), (1, 1, (.c (.d (.str [45]))))], none, []⟩,
⟨some 7, .mv (.c (.d (.int .i64 0))), none, []⟩]
def f162.r2 : List IOper := [
⟨some 8, .bin .lss (.t 7) (.c (.d (.int .i64 2))), none, []⟩]
def f162.r3 : List IOper := [
⟨some 9, .mv (.t 7), none, []⟩,
⟨some 10, .idxA 2 1 false (.t 6) (.t 7), none, []⟩,
⟨some 4, .mv (.t 9), none, []⟩,
⟨some 5, .mv (.t 10), none, []⟩]
def f162.r4 : List IOper := [
⟨some 11, .mv (.t 0), none, []⟩,
⟨some 12, .nilchk (.t 11), none, []⟩,
⟨some 13, .faddr 0 1 (.t 12), none, []⟩,
⟨some 14, .load 1 false (.t 13), none, []⟩,
⟨some 15, .mv (.t 5), none, []⟩,
⟨some 16, .call 122 [(.t 14), (.t 15)], none, []⟩]
def f162.r5 : List IOper := [
⟨some 17, .mv (.t 0), none, []⟩,
⟨some 18, .mv (.t 0), none, []⟩,
⟨some 19, .nilchk (.t 18), none, []⟩,
⟨some 20, .faddr 0 1 (.t 19), none, []⟩,
⟨some 21, .load 1 false (.t 20), none, []⟩,
⟨some 22, .sslice (.t 21) (some (.c (.d (.int .i64 1)))) none, none, []⟩,
⟨some 23, .nilchk (.t 17), none, []⟩,
⟨some 24, .faddr 0 1 (.t 23), none, []⟩,
⟨none, .store 1 (.t 24) (.t 22), none, []⟩]
def f162.r6 : List IOper := [
⟨some 25, .mv (.t 4), none, []⟩,
⟨some 26, .bin .mul (.c (.d (.int .i64 2))) (.t 25), none, []⟩,
⟨some 27, .bin .sub (.c (.d (.int .i64 1))) (.t 26), none, []⟩,
⟨some 2, .mv (.t 27), none, []⟩,
⟨some 3, .mv (.c (.d (.bool true))), none, []⟩]
def f162.r7 : List IOper := [
⟨some 28, .bin .add (.t 7) (.c (.d (.int .i64 1))), none, []⟩,
⟨some 7, .mv (.t 28), none, []⟩]
def f162.l8 : IR := (.seq (.region f162.r2) (.seq (.cond (.t 8) .skip (.exit 0)) (.seq (.block 1 (.seq (.region f162.r3) (.seq (.region f162.r4) (.cond (.t 16) (.seq (.region f162.r5) (.seq (.region f162.r6) .ret)) .skip)))) (.region f162.r7))))
def f162.r9 : List IOper := [
⟨some 2, .mv (.c (.d (.int .i64 1))), none, []⟩,
⟨some 3, .mv (.c (.d (.bool false))), none, []⟩]
def f162 : IFn := ⟨1, 29, [.t 2, .t 3], (.seq (.region f162.r0) (.seq (.seq (.region f162.r1) (.block 0 (.loop f162.l8))) (.seq (.region f162.r9) .ret)))⟩
def f163.r0 : List IOper := [
⟨some 4, .mv (.c (.d (.str []))), none, []⟩]
def f163.r1 : List IOper := [
⟨some 5, .mv (.c (.nils)), none, []⟩]
def f163.r2 : List IOper := [
⟨some 8, .mv (.t 0), none, []⟩,
⟨some 9, .len .slice (.t 8), none, []⟩,
⟨some 10, .mv (.c (.d (.int .i64 0))), none, []⟩]
def f163.r3 : List IOper := [
⟨some 11, .bin .lss (.t 10) (.t 9), none, []⟩]
def f163.r4 : List IOper := [
⟨some 12, .iaddr 3 (.t 8) (.t 10), none, []⟩,
⟨some 13, .load 3 true (.t 12), none, []⟩,
⟨some 7, .alloc [.d (.str []), .d (.str []), .nils], none, []⟩,
⟨none, .store 3 (.t 7) (.t 13), none, []⟩]
def f163.r5 : List IOper := [
⟨some 14, .mv (.t 5), none, []⟩,
⟨some 15, .mv (.t 1), none, []⟩,
⟨some 16, .load 3 true (.t 7), none, []⟩,
⟨some 17, .callv (.t 15) [(.t 16)], none, []⟩,
⟨some 18, .mkSlice 1 1 [.d (.str [])] [(0, 1, (.t 17))], none, []⟩,
⟨some 19, .append 1 16 (.t 14) (.t 18), none, []⟩,
⟨some 5, .mv (.t 19), none, []⟩]
def f163.r6 : List IOper := [
⟨some 20, .bin .add (.t 10) (.c (.d (.int .i64 1))), none, []⟩,
⟨some 10, .mv (.t 20), none, []⟩]
def f163.l7 : IR := (.seq (.region f163.r3) (.seq (.cond (.t 11) .skip (.exit 0)) (.seq (.block 1 (.seq (.region f163.r4) (.region f163.r5))) (.region f163.r6))))
def f163.r8 : List IOper := [
⟨some 21, .mv (.t 5), none, []⟩,
⟨some 22, .call 204 [(.t 21), (.c (.d (.str [44, 32])))], none, []⟩,
⟨some 4, .mv (.t 22), none, []⟩]
def f163 : IFn := ⟨2, 23, [.t 4], (.seq (.region f163.r0) (.seq (.region f163.r1) (.seq (.seq (.region f163.r2) (.block 0 (.loop f163.l7))) (.seq (.region f163.r8) .ret))))⟩
def f164.r0 : List IOper := [
⟨some 4, .mv (.c (.d (.str []))), none, []⟩]
def f164.r1 : List IOper := [
⟨some 5, .mv (.c (.nils)), none, []⟩]
def f164.r2 : List IOper := [
⟨some 8, .mv (.t 0), none, []⟩,
⟨some 9, .len .slice (.t 8), none, []⟩,
⟨some 10, .mv (.c (.d (.int .i64 0))), none, []⟩]
def f164.r3 : List IOper := [
⟨some 11, .bin .lss (.t 10) (.t 9), none, []⟩]
def f164.r4 : List IOper := [
⟨some 12, .iaddr 2 (.t 8) (.t 10), none, []⟩,
⟨some 13, .load 2 true (.t 12), none, []⟩,
⟨some 7, .alloc [.d (.int .i64 0), .nils], none, []⟩,
⟨none, .store 2 (.t 7) (.t 13), none, []⟩]
def f164.r5 : List IOper := [
⟨some 14, .mv (.t 5), none, []⟩,
⟨some 15, .mv (.t 1), none, []⟩,
⟨some 16, .load 2 true (.t 7), none, []⟩,
⟨some 17, .callv (.t 15) [(.t 16)], none, []⟩,
⟨some 18, .mkSlice 1 1 [.d (.str [])] [(0, 1, (.t 17))], none, []⟩,
⟨some 19, .append 1 16 (.t 14) (.t 18), none, []⟩,
⟨some 5, .mv (.t 19), none, []⟩]
def f164.r6 : List IOper := [
⟨some 20, .bin .add (.t 10) (.c (.d (.int .i64 1))), none, []⟩,
⟨some 10, .mv (.t 20), none, []⟩]
def f164.l7 : IR := (.seq (.region f164.r3) (.seq (.cond (.t 11) .skip (.exit 0)) (.seq (.block 1 (.seq (.region f164.r4) (.region f164.r5))) (.region f164.r6))))
def f164.r8 : List IOper := [
⟨some 21, .mv (.t 5), none, []⟩,
⟨some 22, .call 204 [(.t 21), (.c (.d (.str [44, 32])))], none, []⟩,
⟨some 4, .mv (.t 22), none, []⟩]
def f164 : IFn := ⟨2, 23, [.t 4], (.seq (.region f164.r0) (.seq (.region f164.r1) (.seq (.seq (.region f164.r2) (.block 0 (.loop f164.l7))) (.seq (.region f164.r8) .ret))))⟩
def f165.r0 : List IOper := [
⟨some 1, .box 2 (.t 0), none, []⟩,
⟨some 2, .mv (.c (.d (.str []))), none, []⟩]
def f165.r1 : List IOper := [
⟨some 7, .load 2 true (.t 1), none, []⟩,
⟨some 8, .call 48 [(.t 7)], none, []⟩,
⟨some 9, .un .not (.t 8), none, []⟩]
def f165.r2 : List IOper := [
⟨some 2, .mv (.c (.d (.str []))), none, []⟩]
def f165.r3 : List IOper := [
⟨some 3, .alloc [.d (.str [])], none, []⟩,
⟨none, .store 1 (.t 3) (.c (.d (.str []))), none, []⟩]
def f165.r4 : List IOper := [
⟨some 10, .mkfunc 205 [] [(.t 3)], none, []⟩,
⟨some 4, .mv (.t 10), none, []⟩]
def f165.r5 : List IOper := [
⟨some 11, .faddr 1 1 (.t 1), none, []⟩,
⟨some 12, .load 1 false (.t 11), none, []⟩,
⟨some 13, .len .slice (.t 12), none, []⟩,
⟨some 14, .mv (.c (.d (.int .i64 0))), none, []⟩]
def f165.r6 : List IOper := [
⟨some 15, .bin .lss (.t 14) (.t 13), none, []⟩]
def f165.r7 : List IOper := [
⟨some 16, .iaddr 2 (.t 12) (.t 14), none, []⟩,
⟨some 17, .load 2 true (.t 16), none, []⟩,
⟨some 6, .alloc [.d (.str []), .d (.int .i64 0)], none, []⟩,
⟨none, .store 2 (.t 6) (.t 17), none, []⟩]
def f165.r8 : List IOper := [
⟨some 18, .mv (.t 4), none, []⟩,
⟨some 19, .faddr 1 1 (.t 6), none, []⟩,
⟨some 20, .load 1 false (.t 19), none, []⟩,
⟨some 21, .faddr 0 1 (.t 6), none, []⟩,
⟨some 22, .load 1 false (.t 21), none, []⟩,
⟨some 23, .callv (.t 18) [(.t 20), (.t 22)], none, []⟩]
def f165.r9 : List IOper := [
⟨some 24, .bin .add (.t 14) (.c (.d (.int .i64 1))), none, []⟩,
⟨some 14, .mv (.t 24), none, []⟩]
def f165.l10 : IR := (.seq (.region f165.r6) (.seq (.cond (.t 15) .skip (.exit 0)) (.seq (.block 1 (.seq (.region f165.r7) (.region f165.r8))) (.region f165.r9))))
def f165.r11 : List IOper := [
⟨some 25, .faddr 0 1 (.t 1), none, []⟩,
⟨some 26, .load 1 false (.t 25), none, []⟩,
⟨some 27, .bin .neq (.t 26) (.c (.d (.int .i64 0))), none, []⟩,
⟨some 28, .mv (.t 27), none, []⟩,
⟨some 29, .load 1 false (.t 3), some (28, false), []⟩,
⟨some 30, .bin .eql (.t 29) (.c (.d (.str []))), some (28, false), []⟩,
⟨some 31, .pick (.t 28) (.c (.d (.bool true))) (.t 30), none, []⟩]
def f165.r12 : List IOper := [
⟨some 32, .mv (.t 4), none, []⟩,
⟨some 33, .faddr 0 1 (.t 1), none, []⟩,
⟨some 34, .load 1 false (.t 33), none, []⟩,
⟨some 35, .callv (.t 32) [(.t 34), (.c (.d (.str [])))], none, []⟩]
def f165.r13 : List IOper := [
⟨some 36, .load 1 false (.t 3), none, []⟩,
⟨some 2, .mv (.t 36), none, []⟩]
def f165 : IFn := ⟨1, 37, [.t 2], (.seq (.region f165.r0) (.seq (.seq (.region f165.r1) (.cond (.t 9) (.seq (.region f165.r2) .ret) .skip)) (.seq (.region f165.r3) (.seq (.region f165.r4) (.seq (.seq (.region f165.r5) (.block 0 (.loop f165.l10))) (.seq (.seq (.region f165.r11) (.cond (.t 31) (.region f165.r12) .skip)) (.seq (.region f165.r13) .ret)))))))⟩
def f175.r0 : List IOper := [
⟨some 1, .box 2 (.t 0), none, []⟩,
⟨some 2, .mv (.c (.d (.bool false))), none, []⟩]
def f175.r1 : List IOper := [
⟨some 3, .faddr 0 1 (.t 1), none, []⟩,
⟨some 4, .load 1 false (.t 3), none, []⟩,
⟨some 5, .bin .eql (.t 4) (.c (.d (.str []))), none, []⟩,
⟨some 6, .mv (.t 5), none, []⟩,
⟨some 7, .faddr 0 1 (.t 1), some (6, false), []⟩,
⟨some 8, .load 1 false (.t 7), some (6, false), []⟩,
⟨some 9, .call 77 [(.t 8)], some (6, false), []⟩,
⟨some 10, .pick (.t 6) (.c (.d (.bool true))) (.t 9), none, []⟩,
⟨some 11, .mv (.t 10), none, []⟩,
⟨some 12, .faddr 1 1 (.t 1), some (11, true), []⟩,
⟨some 13, .load 1 false (.t 12), some (11, true), []⟩,
⟨some 14, .len .slice (.t 13), some (11, true), []⟩,
⟨some 15, .bin .leq (.t 14) (.c (.d (.int .i64 6))), some (11, true), []⟩,
⟨some 16, .pick (.t 11) (.t 15) (.c (.d (.bool false))), none, []⟩,
⟨some 17, .mv (.t 16), none, []⟩,
⟨some 18, .faddr 1 1 (.t 1), some (17, true), []⟩,
⟨some 19, .load 1 false (.t 18), some (17, true), []⟩,
⟨some 20, .call 127 [(.t 19), (.f 216)], some (17, true), []⟩,
⟨some 21, .un .not (.t 20), some (17, true), []⟩,
⟨some 22, .pick (.t 17) (.t 21) (.c (.d (.bool false))), none, []⟩,
⟨some 2, .mv (.t 22), none, []⟩]
def f175 : IFn := ⟨1, 23, [.t 2], (.seq (.region f175.r0) (.seq (.region f175.r1) .ret))⟩
def f176.r0 : List IOper := [
⟨some 4, .mv (.c (.d (.int .i64 0))), none, []⟩]
def f176.r1 : List IOper := [
⟨some 6, .mv (.t 0), none, []⟩,
⟨some 7, .len .slice (.t 6), none, []⟩,
⟨some 8, .mv (.c (.d (.int .i64 0))), none, []⟩]
def f176.r2 : List IOper := [
⟨some 9, .bin .lss (.t 8) (.t 7), none, []⟩]
def f176.r3 : List IOper := [
⟨some 10, .mv (.t 8), none, []⟩,
⟨some 5, .mv (.t 10), none, []⟩]
def f176.r4 : List IOper := [
⟨some 11, .mv (.t 1), none, []⟩,
⟨some 12, .mv (.t 0), none, []⟩,
⟨some 13, .mv (.t 5), none, []⟩,
⟨some 14, .iaddr 3 (.t 12) (.t 13), none, []⟩,
⟨some 15, .load 3 true (.t 14), none, []⟩,
⟨some 16, .callv (.t 11) [(.t 15)], none, []⟩]
def f176.r5 : List IOper := [
⟨some 17, .mv (.t 5), none, []⟩,
⟨some 4, .mv (.t 17), none, []⟩]
def f176.r6 : List IOper := [
⟨some 18, .bin .add (.t 8) (.c (.d (.int .i64 1))), none, []⟩,
⟨some 8, .mv (.t 18), none, []⟩]
def f176.l7 : IR := (.seq (.region f176.r2) (.seq (.cond (.t 9) .skip (.exit 0)) (.seq (.block 1 (.seq (.region f176.r3) (.seq (.region f176.r4) (.cond (.t 16) (.seq (.region f176.r5) .ret) .skip)))) (.region f176.r6))))
def f176.r8 : List IOper := [
⟨some 4, .mv (.c (.d (.int .i64 (-1)))), none, []⟩]
def f176 : IFn := ⟨2, 19, [.t 4], (.seq (.region f176.r0) (.seq (.seq (.region f176.r1) (.block 0 (.loop f176.l7))) (.seq (.region f176.r8) .ret)))⟩
def f177.r0 : List IOper := [
⟨some 4, .mv (.c (.d (.int .i64 0))), none, []⟩]
def f177.r1 : List IOper := [
⟨some 6, .mv (.t 0), none, []⟩,
⟨some 7, .len .slice (.t 6), none, []⟩,
⟨some 8, .mv (.c (.d (.int .i64 0))), none, []⟩]
def f177.r2 : List IOper := [
⟨some 9, .bin .lss (.t 8) (.t 7), none, []⟩]
def f177.r3 : List IOper := [
⟨some 10, .mv (.t 8), none, []⟩,
⟨some 5, .mv (.t 10), none, []⟩]
def f177.r4 : List IOper := [
⟨some 11, .mv (.t 1), none, []⟩,
⟨some 12, .mv (.t 0), none, []⟩,
⟨some 13, .mv (.t 5), none, []⟩,
⟨some 14, .iaddr 2 (.t 12) (.t 13), none, []⟩,
⟨some 15, .load 2 true (.t 14), none, []⟩,
⟨some 16, .callv (.t 11) [(.t 15)], none, []⟩]
def f177.r5 : List IOper := [
⟨some 17, .mv (.t 5), none, []⟩,
⟨some 4, .mv (.t 17), none, []⟩]
def f177.r6 : List IOper := [
⟨some 18, .bin .add (.t 8) (.c (.d (.int .i64 1))), none, []⟩,
⟨some 8, .mv (.t 18), none, []⟩]
def f177.l7 : IR := (.seq (.region f177.r2) (.seq (.cond (.t 9) .skip (.exit 0)) (.seq (.block 1 (.seq (.region f177.r3) (.seq (.region f177.r4) (.cond (.t 16) (.seq (.region f177.r5) .ret) .skip)))) (.region f177.r6))))
def f177.r8 : List IOper := [
⟨some 4, .mv (.c (.d (.int .i64 (-1)))), none, []⟩]
def f177 : IFn := ⟨2, 19, [.t 4], (.seq (.region f177.r0) (.seq (.seq (.region f177.r1) (.block 0 (.loop f177.l7))) (.seq (.region f177.r8) .ret)))⟩
def f178.r0 : List IOper := [
⟨some 3, .box 7 (.t 0), none, []⟩,
⟨some 4, .mv (.c (.d (.bool false))), none, []⟩]
def f178.r1 : List IOper := [
⟨some 5, .faddr 0 1 (.t 3), none, []⟩,
⟨some 6, .load 1 false (.t 5), none, []⟩,
⟨some 7, .load 1 false (.t 1), none, []⟩,
⟨some 8, .bin .eql (.t 6) (.t 7), none, []⟩,
⟨some 9, .mv (.t 8), none, []⟩,
⟨some 10, .faddr 1 1 (.t 3), some (9, true), []⟩,
⟨some 11, .load 1 false (.t 10), some (9, true), []⟩,
⟨some 12, .load 1 false (.t 2), some (9, true), []⟩,
⟨some 13, .bin .eql (.t 11) (.t 12), some (9, true), []⟩,
⟨some 14, .pick (.t 9) (.t 13) (.c (.d (.bool false))), none, []⟩,
⟨some 4, .mv (.t 14), none, []⟩]
def f178 : IFn := ⟨3, 15, [.t 4], (.seq (.region f178.r0) (.seq (.region f178.r1) .ret))⟩
def f179.r0 : List IOper := [
⟨some 4, .mv (.c (.d (.str []))), none, []⟩]
def f179.r1 : List IOper := [
⟨some 7, .mv (.t 0), none, []⟩,
⟨some 8, .bin .eql (.t 7) (.c (.d (.str []))), none, []⟩,
⟨some 9, .mv (.t 8), none, []⟩,
⟨some 10, .mv (.t 1), some (9, false), []⟩,
⟨some 11, .bin .eql (.t 10) (.c (.d (.str []))), some (9, false), []⟩,
⟨some 12, .pick (.t 9) (.c (.d (.bool true))) (.t 11), none, []⟩]
def f179.r2 : List IOper := [
⟨some 13, .mv (.t 0), none, []⟩,
⟨some 4, .mv (.t 13), none, []⟩]
def f179.r3 : List IOper := [
⟨some 14, .mv (.t 1), none, []⟩,
⟨some 15, .len .str (.t 14), none, []⟩,
⟨some 16, .bin .eql (.t 15) (.c (.d (.int .i64 1))), none, []⟩,
⟨some 17, .mv (.t 16), none, []⟩,
⟨some 18, .mv (.t 1), some (17, true), []⟩,
⟨some 19, .idxS (.t 18) (.c (.d (.int .i64 0))), some (17, true), []⟩,
⟨some 20, .bin .lss (.t 19) (.c (.d (.int .u8 128))), some (17, true), []⟩,
⟨some 21, .pick (.t 17) (.t 20) (.c (.d (.bool false))), none, []⟩]
def f179.r4 : List IOper := [
⟨some 22, .mv (.t 0), none, []⟩,
⟨some 23, .mv (.t 1), none, []⟩,
⟨some 24, .idxS (.t 23) (.c (.d (.int .i64 0))), none, [1]⟩,
⟨some 25, .call 218 [(.t 22), (.t 24)], none, [0, 2]⟩,
⟨some 26, .mv (.t 1), none, []⟩,
⟨some 27, .idxS (.t 26) (.c (.d (.int .i64 0))), none, [4]⟩,
⟨some 28, .call 217 [(.t 25), (.t 27)], none, [3, 5, 3]⟩,
⟨some 4, .mv (.t 28), none, [6, 6, 0, 1, 2, 3, 4, 5, 6]⟩]
def f179.r5 : List IOper := [
⟨some 30, .mv (.t 1), none, []⟩,
⟨some 31, .call 219 [(.t 30)], none, []⟩,
⟨some 29, .mv (.t 31), none, []⟩,
⟨some 32, .ext (.t 29) 0, none, []⟩,
⟨some 33, .ext (.t 29) 1, none, []⟩,
⟨some 5, .alloc [.d (.bool false), .d (.bool false), .d (.bool false), .d (.bool false), .d (.bool false), .d (.bool false), .d (.bool false), .d (.bool false), .d (.bool false), .d (.bool false), .d (.bool false), .d (.bool false), .d (.bool false), .d (.bool false), .d (.bool false), .d (.bool false), .d (.bool false), .d (.bool false), .d (.bool false), .d (.bool false), .d (.bool false), .d (.bool false), .d (.bool false), .d (.bool false), .d (.bool false), .d (.bool false), .d (.bool false), .d (.bool false), .d (.bool false), .d (.bool false), .d (.bool false), .d (.bool false), .d (.bool false), .d (.bool false), .d (.bool false), .d (.bool false), .d (.bool false), .d (.bool false), .d (.bool false), .d (.bool false), .d (.bool false), .d (.bool false), .d (.bool false), .d (.bool false), .d (.bool false), .d (.bool false), .d (.bool false), .d (.bool false), .d (.bool false), .d (.bool false), .d (.bool false), .d (.bool false), .d (.bool false), .d (.bool false), .d (.bool false), .d (.bool false), .d (.bool false), .d (.bool false), .d (.bool false), .d (.bool false), .d (.bool false), .d (.bool false), .d (.bool false), .d (.bool false), .d (.bool false), .d (.bool false), .d (.bool false), .d (.bool false), .d (.bool false), .d (.bool false), .d (.bool false), .d (.bool false), .d (.bool false), .d (.bool false), .d (.bool false), .d (.bool false), .d (.bool false), .d (.bool false), .d (.bool false), .d (.bool false), .d (.bool false), .d (.bool false), .d (.bool false), .d (.bool false), .d (.bool false), .d (.bool false), .d (.bool false), .d (.bool false), .d (.bool false), .d (.bool false), .d (.bool false), .d (.bool false), .d (.bool false), .d (.bool false), .d (.bool false), .d (.bool false), .d (.bool false), .d (.bool false), .d (.bool false), .d (.bool false), .d (.bool false), .d (.bool false), .d (.bool false), .d (.bool false), .d (.bool false), .d (.bool false), .d (.bool false), .d (.bool false), .d (.bool false), .d (.bool false), .d (.bool false), .d (.bool false), .d (.bool false), .d (.bool false), .d (.bool false), .d (.bool false), .d (.bool false), .d (.bool false), .d (.bool false), .d (.bool false), .d (.bool false), .d (.bool false), .d (.bool false), .d (.bool false), .d (.bool false), .d (.bool false), .d (.bool false), .d (.bool false), .d (.bool false), .d (.bool false), .d (.bool false), .d (.bool false), .d (.bool false), .d (.bool false), .d (.bool false), .d (.bool false), .d (.bool false), .d (.bool false), .d (.bool false), .d (.bool false), .d (.bool false), .d (.bool false), .d (.bool false), .d (.bool false), .d (.bool false), .d (.bool false), .d (.bool false), .d (.bool false), .d (.bool false), .d (.bool false), .d (.bool false), .d (.bool false), .d (.bool false), .d (.bool false), .d (.bool false), .d (.bool false), .d (.bool false), .d (.bool false), .d (.bool false), .d (.bool false), .d (.bool false), .d (.bool false), .d (.bool false), .d (.bool false), .d (.bool false), .d (.bool false), .d (.bool false), .d (.bool false), .d (.bool false), .d (.bool false), .d (.bool false), .d (.bool false), .d (.bool false), .d (.bool false), .d (.bool false), .d (.bool false), .d (.bool false), .d (.bool false), .d (.bool false), .d (.bool false), .d (.bool false), .d (.bool false), .d (.bool false), .d (.bool false), .d (.bool false), .d (.bool false), .d (.bool false), .d (.bool false), .d (.bool false), .d (.bool false), .d (.bool false), .d (.bool false), .d (.bool false), .d (.bool false), .d (.bool false), .d (.bool false), .d (.bool false), .d (.bool false), .d (.bool false), .d (.bool false), .d (.bool false), .d (.bool false), .d (.bool false), .d (.bool false), .d (.bool false), .d (.bool false), .d (.bool false), .d (.bool false), .d (.bool false), .d (.bool false), .d (.bool false), .d (.bool false), .d (.bool false), .d (.bool false), .d (.bool false), .d (.bool false), .d (.bool false), .d (.bool false), .d (.bool false), .d (.bool false), .d (.bool false), .d (.bool false), .d (.bool false), .d (.bool false), .d (.bool false), .d (.bool false), .d (.bool false), .d (.bool false), .d (.bool false), .d (.bool false), .d (.bool false), .d (.bool false), .d (.bool false), .d (.bool false), .d (.bool false), .d (.bool false), .d (.bool false), .d (.bool false), .d (.bool false), .d (.bool false), .d (.bool false), .d (.bool false), .d (.bool false), .d (.bool false), .d (.bool false), .d (.bool false), .d (.bool false), .d (.bool false), .d (.bool false), .d (.bool false), .d (.bool false), .d (.bool false), .d (.bool false), .d (.bool false), .d (.bool false), .d (.bool false)], none, []⟩,
⟨none, .store 256 (.t 5) (.t 32), none, []⟩,
⟨some 6, .mv (.t 33), none, []⟩]
def f179.r6 : List IOper := [
⟨some 34, .mv (.t 6), none, []⟩]
def f179.r7 : List IOper := [
⟨some 35, .mv (.t 0), none, []⟩,
⟨some 36, .call 221 [(.t 35), (.t 5)], none, []⟩,
⟨some 37, .call 220 [(.t 36), (.t 5)], none, []⟩,
⟨some 4, .mv (.t 37), none, []⟩]
def f179.r8 : List IOper := [
⟨some 38, .mv (.t 0), none, []⟩,
⟨some 39, .mv (.t 1), none, []⟩,
⟨some 40, .call 223 [(.t 38), (.t 39)], none, []⟩,
⟨some 41, .mv (.t 1), none, []⟩,
⟨some 42, .call 222 [(.t 40), (.t 41)], none, []⟩,
⟨some 4, .mv (.t 42), none, []⟩]
def f179 : IFn := ⟨2, 43, [.t 4], (.seq (.region f179.r0) (.seq (.seq (.region f179.r1) (.cond (.t 12) (.seq (.region f179.r2) .ret) .skip)) (.seq (.seq (.region f179.r3) (.cond (.t 21) (.seq (.draw f179.r4) .ret) .skip)) (.seq (.seq (.region f179.r5) (.seq (.region f179.r6) (.cond (.t 34) (.seq (.region f179.r7) .ret) .skip))) (.seq (.region f179.r8) .ret)))))⟩
def f180.r0 : List IOper := [
⟨some 3, .box 7 (.t 0), none, []⟩,
⟨some 4, .mv (.c (.d (.bool false))), none, []⟩]
def f180.r1 : List IOper := [
⟨some 5, .faddr 0 1 (.t 3), none, []⟩,
⟨some 6, .load 1 false (.t 5), none, []⟩,
⟨some 7, .load 1 false (.t 1), none, []⟩,
⟨some 8, .bin .eql (.t 6) (.t 7), none, []⟩,
⟨some 9, .mv (.t 8), none, []⟩,
⟨some 10, .faddr 1 1 (.t 3), some (9, true), []⟩,
⟨some 11, .load 1 false (.t 10), some (9, true), []⟩,
⟨some 12, .load 1 false (.t 2), some (9, true), []⟩,
⟨some 13, .bin .eql (.t 11) (.t 12), some (9, true), []⟩,
⟨some 14, .pick (.t 9) (.t 13) (.c (.d (.bool false))), none, []⟩,
⟨some 4, .mv (.t 14), none, []⟩]
def f180 : IFn := ⟨3, 15, [.t 4], (.seq (.region f180.r0) (.seq (.region f180.r1) .ret))⟩
def f181.r0 : List IOper := [
⟨some 2, .mv (.c (.nils)), none, []⟩]
def f181.r1 : List IOper := [
⟨some 3, .mv (.c (.nils)), none, []⟩]
def f181.r2 : List IOper := [
⟨some 6, .mv (.t 0), none, []⟩,
⟨some 7, .len .slice (.t 6), none, []⟩,
⟨some 8, .mv (.c (.d (.int .i64 0))), none, []⟩]
def f181.r3 : List IOper := [
⟨some 9, .bin .lss (.t 8) (.t 7), none, []⟩]
def f181.r4 : List IOper := [
⟨some 10, .iaddr 2 (.t 6) (.t 8), none, []⟩,
⟨some 11, .load 2 true (.t 10), none, []⟩,
⟨some 5, .alloc [.d (.int .i64 0), .nils], none, []⟩,
⟨none, .store 2 (.t 5) (.t 11), none, []⟩]
def f181.r5 : List IOper := [
⟨some 12, .mv (.t 3), none, []⟩,
⟨some 13, .faddr 0 1 (.t 5), none, []⟩,
⟨some 14, .load 1 false (.t 13), none, [1]⟩,
⟨some 15, .faddr 1 1 (.t 5), none, []⟩,
⟨some 16, .load 1 false (.t 15), none, [3]⟩,
⟨some 17, .call 224 [(.t 16)], none, [4]⟩,
⟨some 18, .build [.d (.int .i64 0), .nils] [(0, 1, (.t 14)), (1, 1, (.t 17))], none, [2, 5]⟩,
⟨some 19, .mkSlice 2 1 [.d (.int .i64 0), .nils] [(0, 2, (.t 18))], none, [6]⟩,
⟨some 20, .append 2 32 (.t 12) (.t 19), none, [0, 7, 5]⟩,
⟨some 3, .mv (.t 20), none, [8, 8, 0, 1, 2, 3, 4, 5, 6, 7, 8]⟩]
def f181.r6 : List IOper := [
⟨some 21, .bin .add (.t 8) (.c (.d (.int .i64 1))), none, []⟩,
⟨some 8, .mv (.t 21), none, []⟩]
def f181.l7 : IR := (.seq (.region f181.r3) (.seq (.cond (.t 9) .skip (.exit 0)) (.seq (.block 1 (.seq (.region f181.r4) (.draw f181.r5))) (.region f181.r6))))
def f181.r8 : List IOper := [
⟨some 22, .mv (.t 3), none, []⟩,
⟨some 2, .mv (.t 22), none, []⟩]
def f181 : IFn := ⟨1, 23, [.t 2], (.seq (.region f181.r0) (.seq (.region f181.r1) (.seq (.seq (.region f181.r2) (.block 0 (.loop f181.l7))) (.seq (.region f181.r8) .ret))))⟩
def f182.r0 : List IOper := [
⟨some 4, .alloc [.d (.str []), .nils], none, []⟩,
⟨some 5, .mv (.c (.d (.int .i64 0))), none, []⟩]
def f182.r1 : List IOper := [
⟨some 6, .mv (.t 1), none, []⟩,
⟨some 7, .len .slice (.t 6), none, []⟩,
⟨some 8, .bin .gtr (.t 7) (.c (.d (.int .i64 6))), none, []⟩]
def f182.r2 : List IOper := [
⟨some 9, .build [.d (.str []), .nils] [], none, []⟩,
⟨none, .store 2 (.t 4) (.t 9), none, []⟩,
⟨some 5, .mv (.c (.d (.int .i64 3))), none, []⟩]
def f182.r3 : List IOper := [
⟨some 10, .mv (.t 0), none, []⟩,
⟨some 11, .mv (.t 1), none, []⟩,
⟨some 12, .call 181 [(.t 11)], none, []⟩,
⟨some 13, .build [.d (.str []), .nils] [(0, 1, (.t 10)), (1, 1, (.t 12))], none, []⟩,
⟨none, .store 2 (.t 4) (.t 13), none, []⟩,
⟨some 5, .mv (.c (.d (.int .i64 0))), none, []⟩]
def f182 : IFn := ⟨2, 14, [.cell 4 2 true, .t 5], (.seq (.region f182.r0) (.seq (.seq (.region f182.r1) (.cond (.t 8) (.seq (.region f182.r2) .ret) .skip)) (.seq (.region f182.r3) .ret)))⟩
def f194.r0 : List IOper := [
⟨some 1, .box 2 (.t 0), none, []⟩,
⟨some 2, .mv (.c (.d (.str []))), none, []⟩]
def f194.r1 : List IOper := [
⟨some 3, .mv (.c (.nils)), none, []⟩]
def f194.r2 : List IOper := [
⟨some 6, .faddr 0 1 (.t 1), none, []⟩,
⟨some 7, .load 1 false (.t 6), none, []⟩,
⟨some 8, .bin .neq (.t 7) (.c (.d (.str []))), none, []⟩]
def f194.r3 : List IOper := [
⟨some 9, .mv (.t 3), none, []⟩,
⟨some 10, .faddr 0 1 (.t 1), none, []⟩,
⟨some 11, .load 1 false (.t 10), none, []⟩,
⟨some 12, .bin .add (.t 11) (.c (.d (.str [46, 46]))), none, []⟩,
⟨some 13, .mkSlice 1 1 [.d (.str [])] [(0, 1, (.t 12))], none, []⟩,
⟨some 14, .append 1 16 (.t 9) (.t 13), none, []⟩,
⟨some 3, .mv (.t 14), none, []⟩]
def f194.r4 : List IOper := [
⟨some 15, .faddr 1 1 (.t 1), none, []⟩,
⟨some 16, .load 1 false (.t 15), none, []⟩,
⟨some 17, .len .slice (.t 16), none, []⟩,
⟨some 18, .mv (.c (.d (.int .i64 0))), none, []⟩]
def f194.r5 : List IOper := [
⟨some 19, .bin .lss (.t 18) (.t 17), none, []⟩]
def f194.r6 : List IOper := [
⟨some 20, .iaddr 2 (.t 16) (.t 18), none, []⟩,
⟨some 21, .load 2 true (.t 20), none, []⟩,
⟨some 5, .alloc [.d (.int .i64 0), .nils], none, []⟩,
⟨none, .store 2 (.t 5) (.t 21), none, []⟩]
def f194.r7 : List IOper := [
⟨some 22, .mv (.t 3), none, []⟩,
⟨some 23, .load 2 true (.t 5), none, []⟩,
⟨some 24, .call 165 [(.t 23)], none, []⟩,
⟨some 25, .mkSlice 1 1 [.d (.str [])] [(0, 1, (.t 24))], none, []⟩,
⟨some 26, .append 1 16 (.t 22) (.t 25), none, []⟩,
⟨some 3, .mv (.t 26), none, []⟩]
def f194.r8 : List IOper := [
⟨some 27, .bin .add (.t 18) (.c (.d (.int .i64 1))), none, []⟩,
⟨some 18, .mv (.t 27), none, []⟩]
def f194.l9 : IR := (.seq (.region f194.r5) (.seq (.cond (.t 19) .skip (.exit 0)) (.seq (.block 1 (.seq (.region f194.r6) (.region f194.r7))) (.region f194.r8))))
def f194.r10 : List IOper := [
⟨some 28, .mv (.t 3), none, []⟩,
⟨some 29, .call 204 [(.t 28), (.c (.d (.str [44, 32])))], none, []⟩,
⟨some 30, .bin .add (.c (.d (.str [91]))) (.t 29), none, []⟩,
⟨some 31, .bin .add (.t 30) (.c (.d (.str [93]))), none, []⟩,
⟨some 2, .mv (.t 31), none, []⟩]
def f194 : IFn := ⟨1, 32, [.t 2], (.seq (.region f194.r0) (.seq (.region f194.r1) (.seq (.seq (.region f194.r2) (.cond (.t 8) (.region f194.r3) .skip)) (.seq (.seq (.region f194.r4) (.block 0 (.loop f194.l9))) (.seq (.region f194.r10) .ret)))))⟩
def f195.r0 : List IOper := [
⟨some 1, .box 2 (.t 0), none, []⟩,
⟨some 2, .mv (.c (.d (.str []))), none, []⟩,
⟨some 3, .mv (.c (.d (.int .i64 0))), none, []⟩]
def f195.r1 : List IOper := [
⟨some 4, .load 2 true (.t 1), none, []⟩,
⟨some 5, .call 175 [(.t 4)], none, []⟩,
⟨some 6, .un .not (.t 5), none, []⟩]
def f195.r2 : List IOper := [
⟨some 2, .mv (.c (.d (.str []))), none, []⟩,
⟨some 3, .mv (.c (.d (.int .i64 1))), none, []⟩]
def f195.r3 : List IOper := [
⟨some 7, .load 2 true (.t 1), none, []⟩,
⟨some 8, .call 194 [(.t 7)], none, []⟩,
⟨some 2, .mv (.t 8), none, []⟩,
⟨some 3, .mv (.c (.d (.int .i64 0))), none, []⟩]
def f195 : IFn := ⟨1, 9, [.t 2, .t 3], (.seq (.region f195.r0) (.seq (.seq (.region f195.r1) (.cond (.t 6) (.seq (.region f195.r2) .ret) .skip)) (.seq (.region f195.r3) .ret)))⟩
def f199.r0 : List IOper := [
⟨some 2, .mv (.c (.d (.bool false))), none, []⟩]
def f199.r1 : List IOper := [
⟨some 3, .mv (.t 0), none, []⟩,
⟨some 4, .bin .geq (.t 3) (.c (.d (.int .u8 48))), none, []⟩,
⟨some 5, .mv (.t 4), none, []⟩,
⟨some 6, .mv (.t 0), some (5, true), []⟩,
⟨some 7, .bin .leq (.t 6) (.c (.d (.int .u8 57))), some (5, true), []⟩,
⟨some 8, .pick (.t 5) (.t 7) (.c (.d (.bool false))), none, []⟩,
⟨some 2, .mv (.t 8), none, []⟩]
def f199 : IFn := ⟨1, 9, [.t 2], (.seq (.region f199.r0) (.seq (.region f199.r1) .ret))⟩
def f200.r0 : List IOper := [
⟨some 2, .mv (.c (.d (.str []))), none, []⟩,
⟨some 3, .mv (.c (.d (.bool false))), none, []⟩]
def f200.r1 : List IOper := [
⟨some 5, .mv (.t 0), none, []⟩,
⟨some 6, .call 234 [(.t 5), (.f 203)], none, []⟩,
⟨some 4, .mv (.t 6), none, []⟩]
def f200.r2 : List IOper := [
⟨some 7, .mv (.t 4), none, []⟩,
⟨some 8, .mv (.t 4), none, []⟩,
⟨some 9, .call 77 [(.t 8)], none, []⟩,
⟨some 2, .mv (.t 7), none, []⟩,
⟨some 3, .mv (.t 9), none, []⟩]
def f200 : IFn := ⟨1, 10, [.t 2, .t 3], (.seq (.region f200.r0) (.seq (.region f200.r1) (.seq (.region f200.r2) .ret)))⟩
def f201.r0 : List IOper := [
⟨some 2, .mv (.c (.d (.int .i64 0))), none, []⟩,
⟨some 3, .mv (.c (.d (.bool false))), none, []⟩]
def f201.r1 : List IOper := [
⟨some 7, .mv (.t 0), none, []⟩,
⟨some 8, .call 234 [(.t 7), (.f 199)], none, []⟩,
⟨some 4, .mv (.t 8), none, []⟩]
def f201.r2 : List IOper := [
⟨some 10, .mv (.t 4), none, []⟩,
⟨some 11, .call 123 [(.t 10)], none, []⟩,
⟨some 9, .mv (.t 11), none, []⟩,
⟨some 12, .ext (.t 9) 0, none, []⟩,
⟨some 13, .ext (.t 9) 1, none, []⟩,
⟨some 5, .mv (.t 12), none, []⟩,
⟨some 6, .mv (.t 13), none, []⟩]
def f201.r3 : List IOper := [
⟨some 14, .mv (.t 5), none, []⟩,
⟨some 15, .mv (.t 6), none, []⟩,
⟨some 16, .eq false .iface (.t 15) (.c (.nili)), none, []⟩,
⟨some 17, .mv (.t 16), none, []⟩,
⟨some 18, .mv (.t 4), some (17, true), []⟩,
⟨some 19, .len .str (.t 18), some (17, true), []⟩,
⟨some 20, .bin .leq (.t 19) (.c (.d (.int .i64 7))), some (17, true), []⟩,
⟨some 21, .pick (.t 17) (.t 20) (.c (.d (.bool false))), none, []⟩,
⟨some 22, .mv (.t 21), none, []⟩,
⟨some 23, .mv (.t 4), some (22, true), []⟩,
⟨some 24, .idxS (.t 23) (.c (.d (.int .i64 0))), some (22, true), []⟩,
⟨some 25, .bin .neq (.t 24) (.c (.d (.int .u8 48))), some (22, true), []⟩,
⟨some 26, .mv (.t 25), some (22, true), []⟩,
⟨some 27, .mv (.t 4), some (26, false), []⟩,
⟨some 28, .bin .eql (.t 27) (.c (.d (.str [48]))), some (26, false), []⟩,
⟨some 29, .pick (.t 26) (.c (.d (.bool true))) (.t 28), some (22, true), []⟩,
⟨some 30, .pick (.t 22) (.t 29) (.c (.d (.bool false))), none, []⟩,
⟨some 2, .mv (.t 14), none, []⟩,
⟨some 3, .mv (.t 30), none, []⟩]
def f201 : IFn := ⟨1, 31, [.t 2, .t 3], (.seq (.region f201.r0) (.seq (.region f201.r1) (.seq (.region f201.r2) (.seq (.region f201.r3) .ret))))⟩
def f203.r0 : List IOper := [
⟨some 2, .mv (.c (.d (.bool false))), none, []⟩]
def f203.r1 : List IOper := [
⟨some 3, .mv (.t 0), none, []⟩,
⟨some 4, .bin .geq (.t 3) (.c (.d (.int .u8 97))), none, []⟩,
⟨some 5, .mv (.t 4), none, []⟩,
⟨some 6, .mv (.t 0), some (5, true), []⟩,
⟨some 7, .bin .leq (.t 6) (.c (.d (.int .u8 122))), some (5, true), []⟩,
⟨some 8, .pick (.t 5) (.t 7) (.c (.d (.bool false))), none, []⟩,
⟨some 9, .mv (.t 8), none, []⟩,
⟨some 10, .mv (.t 0), some (9, false), []⟩,
⟨some 11, .bin .eql (.t 10) (.c (.d (.int .u8 95))), some (9, false), []⟩,
⟨some 12, .pick (.t 9) (.c (.d (.bool true))) (.t 11), none, []⟩,
⟨some 13, .mv (.t 12), none, []⟩,
⟨some 14, .mv (.t 0), some (13, false), []⟩,
⟨some 15, .call 199 [(.t 14)], some (13, false), []⟩,
⟨some 16, .pick (.t 13) (.c (.d (.bool true))) (.t 15), none, []⟩,
⟨some 2, .mv (.t 16), none, []⟩]
def f203 : IFn := ⟨1, 17, [.t 2], (.seq (.region f203.r0) (.seq (.region f203.r1) .ret))⟩
def f205.r0 : List IOper := [
⟨some 6, .mv (.t 0), none, []⟩,
⟨some 7, .call 64 [(.t 6)], none, []⟩,
⟨some 5, .mv (.t 7), none, []⟩]
def f205.r1 : List IOper := [
⟨some 8, .mv (.t 1), none, []⟩,
⟨some 9, .bin .neq (.t 8) (.c (.d (.str []))), none, []⟩,
⟨some 10, .mv (.t 9), none, []⟩,
⟨some 11, .mv (.t 0), some (10, true), []⟩,
⟨some 12, .bin .eql (.t 11) (.c (.d (.int .i64 1))), some (10, true), []⟩,
⟨some 13, .mv (.t 12), some (10, true), []⟩,
⟨some 14, .mv (.t 0), some (13, false), []⟩,
⟨some 15, .bin .eql (.t 14) (.c (.d (.int .i64 (-1)))), some (13, false), []⟩,
⟨some 16, .pick (.t 13) (.c (.d (.bool true))) (.t 15), some (10, true), []⟩,
⟨some 17, .pick (.t 10) (.t 16) (.c (.d (.bool false))), none, []⟩]
def f205.r2 : List IOper := [
⟨some 18, .mv (.t 5), none, []⟩,
⟨some 19, .call 206 [(.t 18), (.c (.d (.str [49])))], none, []⟩,
⟨some 5, .mv (.t 19), none, []⟩]
def f205.r3 : List IOper := [
⟨some 20, .mv (.t 0), none, []⟩,
⟨some 21, .bin .geq (.t 20) (.c (.d (.int .i64 0))), none, []⟩,
⟨some 22, .mv (.t 21), none, []⟩,
⟨some 23, .load 1 false (.t 2), some (22, true), []⟩,
⟨some 24, .bin .neq (.t 23) (.c (.d (.str []))), some (22, true), []⟩,
⟨some 25, .pick (.t 22) (.t 24) (.c (.d (.bool false))), none, []⟩]
def f205.r4 : List IOper := [
⟨some 26, .load 1 false (.t 2), none, []⟩,
⟨some 27, .bin .add (.t 26) (.c (.d (.str [43]))), none, []⟩,
⟨none, .store 1 (.t 2) (.t 27), none, []⟩]
def f205.r5 : List IOper := [
⟨some 28, .load 1 false (.t 2), none, []⟩,
⟨some 29, .mv (.t 5), none, []⟩,
⟨some 30, .mv (.t 1), none, []⟩,
⟨some 31, .bin .add (.t 29) (.t 30), none, []⟩,
⟨some 32, .bin .add (.t 28) (.t 31), none, []⟩,
⟨none, .store 1 (.t 2) (.t 32), none, []⟩]
def f205 : IFn := ⟨3, 33, [], (.seq (.region f205.r0) (.seq (.seq (.region f205.r1) (.cond (.t 17) (.region f205.r2) .skip)) (.seq (.seq (.region f205.r3) (.cond (.t 25) (.region f205.r4) .skip)) (.region f205.r5))))⟩
def f216.r0 : List IOper := [
⟨some 1, .box 2 (.t 0), none, []⟩,
⟨some 2, .mv (.c (.d (.bool false))), none, []⟩]
def f216.r1 : List IOper := [
⟨some 3, .load 2 true (.t 1), none, []⟩,
⟨some 4, .call 48 [(.t 3)], none, []⟩,
⟨some 5, .un .not (.t 4), none, []⟩,
⟨some 2, .mv (.t 5), none, []⟩]
def f216 : IFn := ⟨1, 6, [.t 2], (.seq (.region f216.r0) (.seq (.region f216.r1) .ret))⟩
def f224.r0 : List IOper := [
⟨some 2, .mv (.c (.nils)), none, []⟩]
def f224.r1 : List IOper := [
⟨some 3, .mv (.t 0), none, []⟩,
⟨some 4, .eq false .slice (.t 3) (.c (.nils)), none, []⟩]
def f224.r2 : List IOper := [
⟨some 2, .mv (.c (.nils)), none, []⟩]
def f224.r3 : List IOper := [
⟨some 5, .mkSlice 2 0 [] [], none, []⟩,
⟨some 6, .mv (.t 0), none, []⟩,
⟨some 7, .append 2 24 (.t 5) (.t 6), none, []⟩,
⟨some 2, .mv (.t 7), none, []⟩]
def f224 : IFn := ⟨1, 8, [.t 2], (.seq (.region f224.r0) (.seq (.seq (.region f224.r1) (.cond (.t 4) (.seq (.region f224.r2) .ret) .skip)) (.seq (.region f224.r3) .ret)))⟩
def f234.r0 : List IOper := [
⟨some 4, .mv (.c (.d (.str []))), none, []⟩]
def f234.r1 : List IOper := [
⟨some 5, .mv (.c (.d (.int .i64 0))), none, []⟩]
def f234.r2 : List IOper := [
⟨some 7, .mv (.t 5), none, []⟩,
⟨some 8, .mv (.t 0), none, []⟩,
⟨some 9, .nilchk (.t 8), none, []⟩,
⟨some 10, .faddr 0 1 (.t 9), none, []⟩,
⟨some 11, .load 1 false (.t 10), none, []⟩,
⟨some 12, .len .str (.t 11), none, []⟩,
⟨some 13, .bin .lss (.t 7) (.t 12), none, []⟩,
⟨some 14, .mv (.t 13), none, []⟩,
⟨some 15, .mv (.t 1), some (14, true), []⟩,
⟨some 16, .mv (.t 0), some (14, true), []⟩,
⟨some 17, .nilchk (.t 16), some (14, true), []⟩,
⟨some 18, .faddr 0 1 (.t 17), some (14, true), []⟩,
⟨some 19, .load 1 false (.t 18), some (14, true), []⟩,
⟨some 20, .mv (.t 5), some (14, true), []⟩,
⟨some 21, .idxS (.t 19) (.t 20), some (14, true), []⟩,
⟨some 22, .callv (.t 15) [(.t 21)], some (14, true), []⟩,
⟨some 23, .pick (.t 14) (.t 22) (.c (.d (.bool false))), none, []⟩]
def f234.r3 : List IOper := [
⟨some 24, .mv (.t 5), none, []⟩,
⟨some 25, .bin .add (.t 24) (.c (.d (.int .i64 1))), none, []⟩,
⟨some 5, .mv (.t 25), none, []⟩]
def f234.l4 : IR := (.seq (.seq (.region f234.r2) (.cond (.t 23) .skip (.exit 0))) (.block 1 (.region f234.r3)))
def f234.r5 : List IOper := [
⟨some 26, .mv (.t 0), none, []⟩,
⟨some 27, .nilchk (.t 26), none, []⟩,
⟨some 28, .faddr 0 1 (.t 27), none, []⟩,
⟨some 29, .load 1 false (.t 28), none, []⟩,
⟨some 30, .mv (.t 5), none, []⟩,
⟨some 31, .sslice (.t 29) none (some (.t 30)), none, []⟩,
⟨some 6, .mv (.t 31), none, []⟩]
def f234.r6 : List IOper := [
⟨some 32, .mv (.t 0), none, []⟩,
⟨some 33, .mv (.t 0), none, []⟩,
⟨some 34, .nilchk (.t 33), none, []⟩,
⟨some 35, .faddr 0 1 (.t 34), none, []⟩,
⟨some 36, .load 1 false (.t 35), none, []⟩,
⟨some 37, .mv (.t 5), none, []⟩,
⟨some 38, .sslice (.t 36) (some (.t 37)) none, none, []⟩,
⟨some 39, .nilchk (.t 32), none, []⟩,
⟨some 40, .faddr 0 1 (.t 39), none, []⟩,
⟨none, .store 1 (.t 40) (.t 38), none, []⟩]
def f234.r7 : List IOper := [
⟨some 41, .mv (.t 6), none, []⟩,
⟨some 4, .mv (.t 41), none, []⟩]
def f234 : IFn := ⟨2, 42, [.t 4], (.seq (.region f234.r0) (.seq (.region f234.r1) (.seq (.block 0 (.loop f234.l4)) (.seq (.region f234.r5) (.seq (.region f234.r6) (.seq (.region f234.r7) .ret))))))⟩

end Fw.X
