/- Code of the program's functions, as operations of the abstract machine. -/
import Derived.Test.YtgfgckimecpmlaaGreatDoorFa
namespace Fw.X
open Go
abbrev oz (d : Nat) (o : IOp) : IOper := ⟨some d, o, none, []⟩
abbrev oy (o : IOp) : IOper := ⟨none, o, none, []⟩
abbrev og (d g : Nat) (b : Bool) (o : IOp) : IOper := ⟨some d, o, some (g, b), []⟩
abbrev oA : Opd := .c (.d (.int .i64 0))
abbrev oB : Opd := .c (.d (.int .i64 1))
abbrev oC : Opd := .c (.d (.bool true))
abbrev oD : Opd := .c (.d (.bool false))
abbrev oE : Opd := .c (.d (.str []))
abbrev oT : List V := [.d (.str []), .d (.str []), .nils]
abbrev om (d n : Nat) : IOper := ⟨some d, .mv (.t n), none, []⟩
abbrev oF (d a b n : Nat) : IOper := ⟨some d, .faddr a b (.t n), none, []⟩
abbrev oL (d a : Nat) (b : Bool) (n : Nat) : IOper := ⟨some d, .load a b (.t n), none, []⟩
abbrev oN (d n : Nat) : IOper := ⟨some d, .len .slice (.t n), none, []⟩
abbrev oX (d n k : Nat) : IOper := ⟨some d, .ext (.t n) k, none, []⟩
abbrev oI (d s a b : Nat) : IOper := ⟨some d, .iaddr s (.t a) (.t b), none, []⟩
abbrev oR (d f a : Nat) : IOper := ⟨some d, .call f [(.t a)], none, []⟩
abbrev oM (d g : Nat) (b : Bool) (n : Nat) : IOper := ⟨some d, .mv (.t n), some (g, b), []⟩
abbrev oG (d g : Nat) (b : Bool) (a : Nat) (c : Bool) (n : Nat) : IOper := ⟨some d, .load a c (.t n), some (g, b), []⟩
abbrev oH (d g : Nat) (b : Bool) (a c n : Nat) : IOper := ⟨some d, .faddr a c (.t n), some (g, b), []⟩
abbrev oV (d : Nat) (l : List Nat) (o : IOp) : IOper := ⟨some d, o, none, l⟩
abbrev oS : List V := [.d (.str []), .nils]
def f4.r0 : List IOper := [
 oz 3 (.box 18 (.t 0)),
 oz 4 (.box 2 (.t 1)),
 oz 6 (.mv oD)]
def f4.r1 : List IOper := [
 oz 11 (.call 12 []),
 oz 12 (.un .not (.t 11)),
 om 13 12,
 oG 14 13 false 18 true 3,
 og 15 13 false (.call 13 [(.t 14)]),
 og 16 13 false (.un .not (.t 15)),
 oz 17 (.pick (.t 13) oC (.t 16)),
 om 18 17,
 oG 19 18 false 2 true 4,
 og 20 18 false (.call 22 [(.t 19)]),
 og 21 18 false (.un .not (.t 20)),
 oz 22 (.pick (.t 18) oC (.t 21)),
 om 23 22,
 oM 24 23 false 2,
 og 25 23 false (.len .slice (.t 24)),
 og 26 23 false (.bin .gtr (.t 25) (.c (.d (.int .i64 18)))),
 oz 27 (.pick (.t 23) oC (.t 26))]
def f4.r2 : List IOper := [
 oz 28 (.call 12 []),
 om 6 28]
def f4.r3 : List IOper := [
 oL 30 18 true 3,
 oL 31 2 true 4,
 om 32 2,
 oz 33 (.call 23 [(.t 30), (.t 31), (.t 32)]),
 om 29 33,
 oX 34 29 0,
 oX 35 29 1,
 om 7 34,
 om 8 35]
def f4.r4 : List IOper := [
 oL 37 18 true 3,
 oL 38 2 true 4,
 om 39 2,
 oz 40 (.call 24 [(.t 37), (.t 38), (.t 39)]),
 om 36 40,
 oX 41 36 0,
 oX 42 36 1,
 om 9 41,
 om 10 42]
def f4.r5 : List IOper := [
 om 43 7,
 oV 44 [0] (.call 26 [(.t 43)]),
 om 45 9,
 oV 46 [1, 2, 1] (.call 25 [(.t 44), (.t 45)]),
 oV 47 [3, 3] (.mv (.t 46)),
⟨some 48, .mv (.t 8), some (47, true), [4]⟩,
⟨some 49, .mv (.t 10), some (47, true), [4]⟩,
⟨some 50, .bin .eql (.t 48) (.t 49), some (47, true), [5, 6, 4]⟩,
 oV 51 [4, 7] (.pick (.t 47) (.t 50) oD),
 oV 52 [8, 4] (.mv (.t 51)),
⟨some 53, .load 18 true (.t 3), some (52, true), [9]⟩,
⟨some 54, .load 2 true (.t 4), some (52, true), [9]⟩,
⟨some 55, .mv (.t 2), some (52, true), [9]⟩,
⟨some 56, .call 27 [(.t 53), (.t 54), (.t 55)], some (52, true), [10, 11, 12, 9, 9]⟩,
⟨some 57, .load 18 true (.t 3), some (52, true), [9]⟩,
⟨some 58, .load 2 true (.t 4), some (52, true), [9]⟩,
⟨some 59, .mv (.t 2), some (52, true), [9]⟩,
⟨some 60, .call 28 [(.t 57), (.t 58), (.t 59)], some (52, true), [14, 15, 16, 13, 9]⟩,
⟨some 61, .eq false .bool (.t 56) (.t 60), some (52, true), [13, 17, 9]⟩,
 oV 62 [9, 18] (.pick (.t 52) (.t 61) oD),
 oV 6 [19, 17, 0, 1, 2, 3, 4, 5, 6, 7, 8, 9, 10, 11, 12, 13, 14, 15, 16, 17, 18, 19] (.mv (.t 62))]
def f4 : IFn := ⟨3, 63, [.t 6], (.seq (.region f4.r0) (.seq (.seq (.region f4.r1) (.cond (.t 27) (.seq (.region f4.r2) .ret) .skip)) (.seq (.region f4.r3) (.seq (.region f4.r4) (.seq (.draw f4.r5) .ret)))))⟩
def f5.r0 : List IOper := [
 oz 3 (.box 18 (.t 0)),
 oz 4 (.box 2 (.t 1)),
 oz 6 (.mv oD)]
def f5.r1 : List IOper := [
 oz 10 (.call 12 []),
 oz 11 (.un .not (.t 10)),
 om 12 11,
 oG 13 12 false 18 true 3,
 og 14 12 false (.call 13 [(.t 13)]),
 og 15 12 false (.un .not (.t 14)),
 oz 16 (.pick (.t 12) oC (.t 15)),
 om 17 16,
 oG 18 17 false 2 true 4,
 og 19 17 false (.call 22 [(.t 18)]),
 og 20 17 false (.un .not (.t 19)),
 oz 21 (.pick (.t 17) oC (.t 20)),
 om 22 21,
 oM 23 22 false 2,
 og 24 22 false (.len .slice (.t 23)),
 og 25 22 false (.bin .gtr (.t 24) (.c (.d (.int .i64 18)))),
 oz 26 (.pick (.t 22) oC (.t 25)),
 om 27 26,
 oG 28 27 false 18 true 3,
 og 29 27 false (.call 18 [(.t 28)]),
 og 30 27 false (.un .not (.t 29)),
 oz 31 (.pick (.t 27) oC (.t 30)),
 om 32 31,
 oG 33 32 false 18 true 3,
 oG 34 32 false 2 true 4,
 oM 35 32 false 2,
 og 36 32 false (.call 27 [(.t 33), (.t 34), (.t 35)]),
 og 37 32 false (.un .not (.t 36)),
 oz 38 (.pick (.t 32) oC (.t 37))]
def f5.r2 : List IOper := [
 oz 39 (.call 12 []),
 om 6 39]
def f5.r3 : List IOper := [
 oL 41 18 true 3,
 oR 42 14 41,
 om 40 42,
 oX 43 40 0,
 oX 44 40 1,
 oX 45 40 2,
 oz 7 (.alloc oS),
 oy (.store 2 (.t 7) (.t 43)),
 om 8 44,
 om 9 45]
def f5.r4 : List IOper := [
 om 46 9,
 oz 47 (.bin .eql (.t 46) oA),
 om 48 47,
 oG 49 48 true 18 true 3,
 oG 50 48 true 2 true 7,
 oM 51 48 true 8,
 og 52 48 true (.call 27 [(.t 49), (.t 50), (.t 51)]),
 oz 53 (.pick (.t 48) (.t 52) oD),
 om 54 53,
 oH 55 54 true 1 1 4,
 oG 56 54 true 1 false 55,
 og 57 54 true (.len .slice (.t 56)),
 og 58 54 true (.bin .eql (.t 57) oA),
 oM 59 54 true 58,
 oG 60 59 false 2 true 7,
 oG 61 59 false 2 true 4,
 og 62 59 false (.call 20 [(.t 60), (.t 61)]),
 oM 63 59 false 62,
 oM 64 63 true 8,
 oM 65 63 true 2,
 og 66 63 true (.call 21 [(.t 64), (.t 65)]),
 og 67 59 false (.pick (.t 63) (.t 66) oD),
 og 68 54 true (.pick (.t 59) oC (.t 67)),
 oz 69 (.pick (.t 54) (.t 68) oD),
 om 6 69]
def f5 : IFn := ⟨3, 70, [.t 6], (.seq (.region f5.r0) (.seq (.seq (.region f5.r1) (.cond (.t 38) (.seq (.region f5.r2) .ret) .skip)) (.seq (.region f5.r3) (.seq (.region f5.r4) .ret))))⟩
def f9.r0 : List IOper := [
 oz 2 (.box 18 (.t 0)),
 oz 4 (.mv oD)]
def f9.r1 : List IOper := [
 oz 20 (.call 12 []),
 oz 21 (.un .not (.t 20)),
 om 22 21,
 oG 23 22 false 18 true 2,
 og 24 22 false (.call 13 [(.t 23)]),
 og 25 22 false (.un .not (.t 24)),
 oz 26 (.pick (.t 22) oC (.t 25)),
 om 27 26,
 oM 28 27 false 1,
 og 29 27 false (.len .slice (.t 28)),
 og 30 27 false (.bin .gtr (.t 29) (.c (.d (.int .i64 6)))),
 oz 31 (.pick (.t 27) oC (.t 30)),
 om 32 31,
 oG 33 32 false 18 true 2,
 og 34 32 false (.call 18 [(.t 33)]),
 og 35 32 false (.un .not (.t 34)),
 oz 36 (.pick (.t 32) oC (.t 35))]
def f9.r2 : List IOper := [
 oz 37 (.call 12 []),
 om 4 37]
def f9.r3 : List IOper := [
 oL 39 18 true 2,
 oR 40 14 39,
 om 38 40,
 oX 41 38 0,
 oX 42 38 1,
 oX 43 38 2,
 oz 5 (.alloc oS),
 oy (.store 2 (.t 5) (.t 41)),
 om 6 42,
 om 7 43]
def f9.r4 : List IOper := [
 om 44 7,
 oz 45 (.bin .neq (.t 44) oA),
 om 46 45,
 oG 47 46 false 18 true 2,
 oG 48 46 false 2 true 5,
 oM 49 46 false 6,
 og 50 46 false (.call 27 [(.t 47), (.t 48), (.t 49)]),
 og 51 46 false (.un .not (.t 50)),
 oz 52 (.pick (.t 46) oC (.t 51))]
def f9.r5 : List IOper := [
 oz 4 (.mv oC)]
def f9.r6 : List IOper := [
 oz 8 (.mv (.c (.nils)))]
def f9.r7 : List IOper := [
 oz 9 (.mv (.c (.nils)))]
def f9.r8 : List IOper := [
 oF 53 8 1 2,
 oL 54 1 false 53,
 oN 55 54,
 oz 56 (.mv oA)]
def f9.r9 : List IOper := [
 oz 57 (.bin .lss (.t 56) (.t 55))]
def f9.r10 : List IOper := [
 om 58 56,
 om 10 58]
def f9.r11 : List IOper := [
 oF 60 8 1 2,
 oL 61 1 false 60,
 om 62 10,
 oI 63 3 61 62,
 oF 64 1 2 63,
 oL 65 2 true 64,
 om 66 1,
 oz 67 (.call 37 [(.t 65), (.t 66)]),
 om 59 67,
 oX 68 59 0,
 oX 69 59 1,
 om 11 68,
 om 12 69]
def f9.r12 : List IOper := [
 om 70 12,
 oz 71 (.bin .neq (.t 70) oA)]
def f9.r13 : List IOper := [
 oz 4 (.mv oC)]
def f9.r14 : List IOper := [
 om 72 8,
 om 73 11,
 oV 74 [1] (.mkSlice 1 1 [.nils] [(0, 1, (.t 73))]),
 oV 75 [0, 2] (.append 1 24 (.t 72) (.t 74)),
 om 76 9,
 oF 77 9 1 2,
 oV 78 [5] (.load 1 false (.t 77)),
 om 79 10,
 oV 80 [6, 7] (.iaddr 3 (.t 78) (.t 79)),
 oV 81 [8] (.faddr 1 2 (.t 80)),
 oV 82 [9] (.faddr 1 1 (.t 81)),
 oV 83 [10] (.load 1 false (.t 82)),
 oV 84 [11] (.len .slice (.t 83)),
 oV 85 [12] (.mkSlice 1 1 [.d (.int .i64 0)] [(0, 1, (.t 84))]),
 oV 86 [4, 13, 3] (.append 1 8 (.t 76) (.t 85)),
 oV 8 [3, 14, 0, 1, 2, 3] (.mv (.t 75)),
 oV 9 [14, 15, 0, 1, 2, 3, 4, 5, 6, 7, 8, 9, 10, 11, 12, 13, 14, 15] (.mv (.t 86))]
def f9.r15 : List IOper := [
 oz 87 (.bin .add (.t 56) oB),
 om 56 87]
def f9.l16 : IR := (.seq (.region f9.r9) (.seq (.cond (.t 57) .skip (.exit 0)) (.seq (.block 1 (.seq (.region f9.r10) (.seq (.region f9.r11) (.seq (.seq (.region f9.r12) (.cond (.t 71) (.seq (.region f9.r13) .ret) .skip)) (.draw f9.r14))))) (.region f9.r15))))
def f9.r17 : List IOper := [
 oF 89 10 3 2,
 oF 90 1 2 89,
 oL 91 2 true 90,
 om 92 1,
 oz 93 (.call 37 [(.t 91), (.t 92)]),
 om 88 93,
 oX 94 88 0,
 oX 95 88 1,
 om 13 94,
 om 14 95]
def f9.r18 : List IOper := [
 oF 97 13 3 2,
 oF 98 1 2 97,
 oL 99 2 true 98,
 om 100 1,
 oz 101 (.call 37 [(.t 99), (.t 100)]),
 om 96 101,
 oX 102 96 0,
 oX 103 96 1,
 om 15 102,
 om 16 103]
def f9.r19 : List IOper := [
 om 104 14,
 oz 105 (.bin .neq (.t 104) oA),
 om 106 105,
 oM 107 106 false 16,
 og 108 106 false (.bin .neq (.t 107) oA),
 oz 109 (.pick (.t 106) oC (.t 108))]
def f9.r20 : List IOper := [
 oz 4 (.mv oC)]
def f9.r21 : List IOper := [
 om 111 8,
 om 112 9,
 oz 113 (.call 34 [(.t 111), (.t 112)]),
 om 110 113,
 oX 114 110 0,
 oX 115 110 1,
 oX 116 110 2,
 om 17 114,
 om 18 115,
 om 19 116]
def f9.r22 : List IOper := [
 om 117 19,
 oz 118 (.bin .eql (.t 117) oA),
 om 119 118,
 oM 120 119 true 18,
 oM 121 119 true 6,
 og 122 119 true (.call 21 [(.t 120), (.t 121)]),
 oz 123 (.pick (.t 119) (.t 122) oD),
 om 124 123,
 oM 125 124 true 13,
 og 126 124 true (.mkSlice 1 0 [] []),
 oM 127 124 true 17,
 og 128 124 true (.append 1 8 (.t 126) (.t 127)),
 oM 129 124 true 15,
 og 130 124 true (.append 1 8 (.t 128) (.t 129)),
 og 131 124 true (.call 36 [(.t 125), (.t 130)]),
 oz 132 (.pick (.t 124) (.t 131) oD),
 om 4 132]
def f9 : IFn := ⟨2, 133, [.t 4], (.seq (.region f9.r0) (.seq (.seq (.region f9.r1) (.cond (.t 36) (.seq (.region f9.r2) .ret) .skip)) (.seq (.region f9.r3) (.seq (.seq (.region f9.r4) (.cond (.t 52) (.seq (.region f9.r5) .ret) .skip)) (.seq (.region f9.r6) (.seq (.region f9.r7) (.seq (.seq (.region f9.r8) (.block 0 (.loop f9.l16))) (.seq (.region f9.r17) (.seq (.region f9.r18) (.seq (.seq (.region f9.r19) (.cond (.t 109) (.seq (.region f9.r20) .ret) .skip)) (.seq (.region f9.r21) (.seq (.region f9.r22) .ret))))))))))))⟩
def f13.r0 : List IOper := [
 oz 1 (.box 18 (.t 0)),
 oz 2 (.mv oD)]
def f13.r1 : List IOper := [
 oz 3 (.mv oA)]
def f13.r2 : List IOper := [
 om 5 3,
 oF 6 8 1 1,
 oL 7 1 false 6,
 oN 8 7,
 oz 9 (.bin .lss (.t 5) (.t 8)),
 om 10 9,
 oM 11 10 true 3,
 og 12 10 true (.bin .lss (.t 11) (.c (.d (.int .i64 18)))),
 oz 13 (.pick (.t 10) (.t 12) oD)]
def f13.r3 : List IOper := [
 oF 16 8 1 1,
 oL 17 1 false 16,
 om 18 3,
 oI 19 3 17 18,
 oL 20 3 true 19,
 oR 21 32 20,
 oz 22 (.un .not (.t 21))]
def f13.r4 : List IOper := [
 oz 2 (.mv oD)]
def f13.r5 : List IOper := [
 om 14 3,
 oz 15 (.bin .add (.t 14) oB),
 om 3 15]
def f13.l6 : IR := (.seq (.seq (.region f13.r2) (.cond (.t 13) .skip (.exit 0))) (.seq (.block 1 (.seq (.region f13.r3) (.cond (.t 22) (.seq (.region f13.r4) .ret) .skip))) (.region f13.r5)))
def f13.r7 : List IOper := [
 oz 4 (.mv oA)]
def f13.r8 : List IOper := [
 om 23 4,
 oF 24 9 1 1,
 oL 25 1 false 24,
 oN 26 25,
 oz 27 (.bin .lss (.t 23) (.t 26)),
 om 28 27,
 oM 29 28 true 4,
 og 30 28 true (.bin .lss (.t 29) (.c (.d (.int .i64 18)))),
 oz 31 (.pick (.t 28) (.t 30) oD)]
def f13.r9 : List IOper := [
 oF 34 9 1 1,
 oL 35 1 false 34,
 om 36 4,
 oI 37 3 35 36,
 oL 38 3 true 37,
 oR 39 32 38,
 oz 40 (.un .not (.t 39))]
def f13.r10 : List IOper := [
 oz 2 (.mv oD)]
def f13.r11 : List IOper := [
 om 32 4,
 oz 33 (.bin .add (.t 32) oB),
 om 4 33]
def f13.l12 : IR := (.seq (.seq (.region f13.r8) (.cond (.t 31) .skip (.exit 2))) (.seq (.block 3 (.seq (.region f13.r9) (.cond (.t 40) (.seq (.region f13.r10) .ret) .skip))) (.region f13.r11)))
def f13.r13 : List IOper := [
 oF 41 8 1 1,
 oL 42 1 false 41,
 oN 43 42,
 oz 44 (.bin .leq (.t 43) (.c (.d (.int .i64 17)))),
 om 45 44,
 oH 46 45 true 9 1 1,
 oG 47 45 true 1 false 46,
 og 48 45 true (.len .slice (.t 47)),
 og 49 45 true (.bin .leq (.t 48) (.c (.d (.int .i64 17)))),
 oz 50 (.pick (.t 45) (.t 49) oD),
 om 51 50,
 oH 52 51 true 10 3 1,
 oG 53 51 true 3 true 52,
 og 54 51 true (.call 32 [(.t 53)]),
 oz 55 (.pick (.t 51) (.t 54) oD),
 om 56 55,
 oH 57 56 true 13 3 1,
 oG 58 56 true 3 true 57,
 og 59 56 true (.call 32 [(.t 58)]),
 oz 60 (.pick (.t 56) (.t 59) oD),
 om 61 60,
 oH 62 61 true 2 3 1,
 oG 63 61 true 3 true 62,
 og 64 61 true (.call 32 [(.t 63)]),
 oz 65 (.pick (.t 61) (.t 64) oD),
 om 66 65,
 oH 67 66 true 5 3 1,
 oG 68 66 true 3 true 67,
 og 69 66 true (.call 32 [(.t 68)]),
 oz 70 (.pick (.t 66) (.t 69) oD),
 om 71 70,
 oH 72 71 true 16 2 1,
 oG 73 71 true 2 true 72,
 og 74 71 true (.mkSlice 2 1 [.d (.int .i64 0), .nils] [(0, 2, (.t 73))]),
 og 75 71 true (.build oS [(1, 1, (.t 74))]),
 og 76 71 true (.call 22 [(.t 75)]),
 oz 77 (.pick (.t 71) (.t 76) oD),
 om 2 77]
def f13 : IFn := ⟨1, 78, [.t 2], (.seq (.region f13.r0) (.seq (.seq (.region f13.r1) (.block 0 (.loop f13.l6))) (.seq (.seq (.region f13.r7) (.block 2 (.loop f13.l12))) (.seq (.region f13.r13) .ret))))⟩
def f14.r0 : List IOper := [
 oz 1 (.box 18 (.t 0)),
 oz 2 (.alloc oS),
 oz 3 (.mv (.c (.nils))),
 oz 4 (.mv oA)]
def f14.r1 : List IOper := [
 oL 8 18 true 1,
 oR 9 18 8,
 oz 10 (.un .not (.t 9))]
def f14.r2 : List IOper := [
 oz 11 (.build oS []),
 oy (.store 2 (.t 2) (.t 11)),
 oz 3 (.mv (.c (.nils))),
 oz 4 (.mv oB)]
def f14.r3 : List IOper := [
 oF 12 8 1 1,
 oL 13 1 false 12,
 oN 14 13,
 oz 15 (.mv oA)]
def f14.r4 : List IOper := [
 oz 16 (.bin .lss (.t 15) (.t 14))]
def f14.r5 : List IOper := [
 om 17 15,
 oI 18 3 13 15,
 oL 19 3 true 18,
 oz 6 (.alloc oT),
 om 5 17,
 oy (.store 3 (.t 6) (.t 19))]
def f14.r6 : List IOper := [
 oF 20 1 2 6,
 oV 21 [0] (.faddr 1 1 (.t 20)),
 oV 22 [1] (.load 1 false (.t 21)),
 oV 23 [2] (.len .slice (.t 22)),
 oF 24 9 1 1,
 oV 25 [4] (.load 1 false (.t 24)),
 om 26 5,
 oV 27 [5, 6] (.iaddr 3 (.t 25) (.t 26)),
 oV 28 [7] (.faddr 1 2 (.t 27)),
 oV 29 [8] (.faddr 1 1 (.t 28)),
 oV 30 [9] (.load 1 false (.t 29)),
 oV 31 [10] (.len .slice (.t 30)),
 oV 32 [3, 11] (.bin .sub (.t 23) (.t 31)),
 oV 7 [12, 0, 1, 2, 3, 4, 5, 6, 7, 8, 9, 10, 11, 12] (.mv (.t 32))]
def f14.r7 : List IOper := [
 om 33 7,
 oz 34 (.bin .lss (.t 33) oA),
 om 35 34,
 oM 36 35 false 7,
 og 37 35 false (.bin .gtr (.t 36) oA),
 oM 38 35 false 37,
 oH 39 38 true 1 1 2,
 oG 40 38 true 1 false 39,
 og 41 38 true (.len .slice (.t 40)),
 og 42 38 true (.bin .gtr (.t 41) oA),
 og 43 35 false (.pick (.t 38) (.t 42) oD),
 oM 44 35 false 43,
 oM 45 44 true 7,
 oH 46 44 true 1 1 2,
 oG 47 44 true 1 false 46,
 og 48 44 true (.len .slice (.t 47)),
 og 49 44 true (.bin .neq (.t 45) (.t 48)),
 og 50 35 false (.pick (.t 44) (.t 49) oD),
 oz 51 (.pick (.t 35) oC (.t 50))]
def f14.r8 : List IOper := [
 oz 52 (.build oS []),
 oy (.store 2 (.t 2) (.t 52)),
 oz 3 (.mv (.c (.nils))),
 oz 4 (.mv (.c (.d (.int .i64 13))))]
def f14.r9 : List IOper := [
 om 53 7,
 oz 54 (.bin .gtr (.t 53) oA),
 om 55 54,
 oH 56 55 true 1 1 2,
 oG 57 55 true 1 false 56,
 og 58 55 true (.len .slice (.t 57)),
 og 59 55 true (.bin .eql (.t 58) oA),
 oz 60 (.pick (.t 55) (.t 59) oD)]
def f14.r10 : List IOper := [
 oF 62 1 2 6,
 oV 63 [0] (.load 2 true (.t 62)),
 oF 64 9 1 1,
 oV 65 [2] (.load 1 false (.t 64)),
 om 66 5,
 oV 67 [3, 4] (.iaddr 3 (.t 65) (.t 66)),
 oV 68 [5] (.faddr 1 2 (.t 67)),
 oV 69 [6] (.faddr 1 1 (.t 68)),
 oV 70 [7] (.load 1 false (.t 69)),
 oV 71 [8] (.len .slice (.t 70)),
 oV 72 [1, 9] (.call 50 [(.t 63), (.t 71)]),
 oV 61 [10] (.mv (.t 72)),
 oV 73 [11] (.ext (.t 61) 0),
 oV 74 [11] (.ext (.t 61) 1),
 oV 75 [11] (.ext (.t 61) 2),
⟨none, .store 2 (.t 2) (.t 73), none, [12, 10, 0, 1, 2, 3, 4, 5, 6, 7, 8, 9, 10, 11, 12]⟩]
def f14.r11 : List IOper := [
 om 76 3,
 om 77 7,
 oz 78 (.bin .gtr (.t 77) oA),
 oz 79 (.mkSlice 1 1 [.d (.bool false)] [(0, 1, (.t 78))]),
 oz 80 (.append 1 1 (.t 76) (.t 79)),
 om 3 80]
def f14.r12 : List IOper := [
 oz 81 (.bin .add (.t 15) oB),
 om 15 81]
def f14.l13 : IR := (.seq (.region f14.r4) (.seq (.cond (.t 16) .skip (.exit 0)) (.seq (.block 1 (.seq (.region f14.r5) (.seq (.draw f14.r6) (.seq (.seq (.region f14.r7) (.cond (.t 51) (.seq (.region f14.r8) .ret) .skip)) (.seq (.seq (.region f14.r9) (.cond (.t 60) (.draw f14.r10) .skip)) (.region f14.r11)))))) (.region f14.r12))))
def f14.r14 : List IOper := [
 oL 82 2 true 2,
 om 83 3,
 oy (.store 2 (.t 2) (.t 82)),
 om 3 83,
 oz 4 (.mv oA)]
def f14 : IFn := ⟨1, 84, [.cell 2 2 true, .t 3, .t 4], (.seq (.region f14.r0) (.seq (.seq (.region f14.r1) (.cond (.t 10) (.seq (.region f14.r2) .ret) .skip)) (.seq (.seq (.region f14.r3) (.block 0 (.loop f14.l13))) (.seq (.region f14.r14) .ret))))⟩
def f16.r0 : List IOper := [
 oz 1 (.box 18 (.t 0)),
 oz 2 (.mv oD)]
def f16.r1 : List IOper := [
 oF 4 0 1 1,
 oL 5 1 false 4,
 oz 6 (.bin .neq (.t 5) (.c (.d (.int .i64 2)))),
 om 7 6,
 oH 8 7 false 8 1 1,
 oG 9 7 false 1 false 8,
 og 10 7 false (.len .slice (.t 9)),
 oH 11 7 false 9 1 1,
 oG 12 7 false 1 false 11,
 og 13 7 false (.len .slice (.t 12)),
 og 14 7 false (.bin .neq (.t 10) (.t 13)),
 oz 15 (.pick (.t 7) oC (.t 14)),
 om 16 15,
 oH 17 16 false 8 1 1,
 oG 18 16 false 1 false 17,
 og 19 16 false (.len .slice (.t 18)),
 og 20 16 false (.bin .gtr (.t 19) (.c (.d (.int .i64 16)))),
 oz 21 (.pick (.t 16) oC (.t 20)),
 om 22 21,
 oH 23 22 false 10 3 1,
 oG 24 22 false 3 true 23,
 og 25 22 false (.call 51 [(.t 24)]),
 og 26 22 false (.un .not (.t 25)),
 oz 27 (.pick (.t 22) oC (.t 26)),
 om 28 27,
 oH 29 28 false 13 3 1,
 oG 30 28 false 3 true 29,
 og 31 28 false (.call 51 [(.t 30)]),
 og 32 28 false (.un .not (.t 31)),
 oz 33 (.pick (.t 28) oC (.t 32)),
 om 34 33,
 oH 35 34 false 13 3 1,
 oH 36 34 false 1 2 35,
 oH 37 34 false 0 1 36,
 oG 38 34 false 1 false 37,
 og 39 34 false (.bin .neq (.t 38) oE),
 oz 40 (.pick (.t 34) oC (.t 39))]
def f16.r2 : List IOper := [
 oz 2 (.mv oD)]
def f16.r3 : List IOper := [
 oz 3 (.alloc [.nilf]),
 oy (.store 1 (.t 3) (.f 52))]
def f16.r4 : List IOper := [
 oF 41 8 1 1,
 oL 42 1 false 41,
 oL 43 1 false 3,
 oz 44 (.call 53 [(.t 42), (.t 43)]),
 oz 45 (.un .not (.t 44)),
 om 46 45,
 oH 47 46 true 9 1 1,
 oG 48 46 true 1 false 47,
 og 49 46 true (.mkfunc 54 [] [(.t 3)]),
 og 50 46 true (.call 53 [(.t 48), (.t 49)]),
 og 51 46 true (.un .not (.t 50)),
 oz 52 (.pick (.t 46) (.t 51) oD),
 om 2 52]
def f16 : IFn := ⟨1, 53, [.t 2], (.seq (.region f16.r0) (.seq (.seq (.region f16.r1) (.cond (.t 40) (.seq (.region f16.r2) .ret) .skip)) (.seq (.region f16.r3) (.seq (.region f16.r4) .ret))))⟩
def f18.r0 : List IOper := [
 oz 1 (.box 18 (.t 0)),
 oz 2 (.mv oD)]
def f18.r1 : List IOper := [
 oL 3 18 true 1,
 oR 4 16 3,
 om 5 4,
 oH 6 5 true 8 1 1,
 oG 7 5 true 1 false 6,
 og 8 5 true (.call 53 [(.t 7), (.f 55)]),
 og 9 5 true (.un .not (.t 8)),
 oz 10 (.pick (.t 5) (.t 9) oD),
 om 2 10]
def f18 : IFn := ⟨1, 11, [.t 2], (.seq (.region f18.r0) (.seq (.region f18.r1) .ret))⟩
def f21.r0 : List IOper := [
 oz 4 (.mv oD)]
def f21.r1 : List IOper := [
 om 6 0,
 oN 7 6,
 om 8 1,
 oN 9 8,
 oz 10 (.bin .neq (.t 7) (.t 9))]
def f21.r2 : List IOper := [
 oz 4 (.mv oD)]
def f21.r3 : List IOper := [
 oz 5 (.mv oA)]
def f21.r4 : List IOper := [
 om 11 5,
 om 12 0,
 oN 13 12,
 oz 14 (.bin .lss (.t 11) (.t 13))]
def f21.r5 : List IOper := [
 om 17 0,
 om 18 5,
 oV 19 [0, 1] (.iaddr 1 (.t 17) (.t 18)),
 oV 20 [2] (.load 1 false (.t 19)),
 om 21 1,
 om 22 5,
 oV 23 [4, 5] (.iaddr 1 (.t 21) (.t 22)),
 oV 24 [6] (.load 1 false (.t 23)),
 oV 25 [3, 7] (.eq true .bool (.t 20) (.t 24))]
def f21.r6 : List IOper := [
 oz 4 (.mv oD)]
def f21.r7 : List IOper := [
 om 15 5,
 oz 16 (.bin .add (.t 15) oB),
 om 5 16]
def f21.l8 : IR := (.seq (.seq (.region f21.r4) (.cond (.t 14) .skip (.exit 0))) (.seq (.block 1 (.seq (.draw f21.r5) (.cond (.t 25) (.seq (.region f21.r6) .ret) .skip))) (.region f21.r7)))
def f21.r9 : List IOper := [
 oz 4 (.mv oC)]
def f21 : IFn := ⟨2, 26, [.t 4], (.seq (.region f21.r0) (.seq (.seq (.region f21.r1) (.cond (.t 10) (.seq (.region f21.r2) .ret) .skip)) (.seq (.seq (.region f21.r3) (.block 0 (.loop f21.l8))) (.seq (.region f21.r9) .ret))))⟩
def f22.r0 : List IOper := [
 oz 1 (.box 2 (.t 0)),
 oz 2 (.mv oD)]
def f22.r1 : List IOper := [
 oz 3 (.mv oA)]
def f22.r2 : List IOper := [
 om 4 3,
 oF 5 1 1 1,
 oL 6 1 false 5,
 oN 7 6,
 oz 8 (.bin .lss (.t 4) (.t 7))]
def f22.r3 : List IOper := [
 oF 11 1 1 1,
 oL 12 1 false 11,
 om 13 3,
 oI 14 2 12 13,
 oL 15 2 true 14,
 oR 16 57 15,
 oz 17 (.un .not (.t 16))]
def f22.r4 : List IOper := [
 oz 2 (.mv oD)]
def f22.r5 : List IOper := [
 om 9 3,
 oz 10 (.bin .add (.t 9) oB),
 om 3 10]
def f22.l6 : IR := (.seq (.seq (.region f22.r2) (.cond (.t 8) .skip (.exit 0))) (.seq (.block 1 (.seq (.region f22.r3) (.cond (.t 17) (.seq (.region f22.r4) .ret) .skip))) (.region f22.r5)))
def f22.r7 : List IOper := [
 oF 18 1 1 1,
 oL 19 1 false 18,
 oN 20 19,
 oz 21 (.bin .leq (.t 20) (.c (.d (.int .i64 8)))),
 om 22 21,
 oH 23 22 true 0 1 1,
 oG 24 22 true 1 false 23,
 og 25 22 true (.len .str (.t 24)),
 og 26 22 true (.bin .leq (.t 25) (.c (.d (.int .i64 35)))),
 oz 27 (.pick (.t 22) (.t 26) oD),
 om 2 27]
def f22 : IFn := ⟨1, 28, [.t 2], (.seq (.region f22.r0) (.seq (.seq (.region f22.r1) (.block 0 (.loop f22.l6))) (.seq (.region f22.r7) .ret)))⟩
def f23.r0 : List IOper := [
 oz 3 (.box 18 (.t 0)),
 oz 4 (.box 2 (.t 1)),
 oz 6 (.mv (.c (.nils))),
 oz 7 (.mv oA)]
def f23.r1 : List IOper := [
 om 16 2,
 oz 17 (.call 58 [(.t 16), oC]),
 om 8 17]
def f23.r2 : List IOper := [
 oL 18 18 true 3,
 oR 19 16 18,
 oz 20 (.un .not (.t 19)),
 om 21 20,
 oG 22 21 false 2 true 4,
 og 23 21 false (.call 59 [(.t 22)]),
 og 24 21 false (.un .not (.t 23)),
 oz 25 (.pick (.t 21) oC (.t 24)),
 om 26 25,
 oM 27 26 false 2,
 og 28 26 false (.len .slice (.t 27)),
 oH 29 26 false 8 1 3,
 oG 30 26 false 1 false 29,
 og 31 26 false (.len .slice (.t 30)),
 og 32 26 false (.bin .neq (.t 28) (.t 31)),
 oz 33 (.pick (.t 26) oC (.t 32)),
 om 34 33,
 oM 35 34 false 8,
 og 36 34 false (.un .not (.t 35)),
 oM 37 34 false 36,
 oH 38 37 true 0 1 4,
 oG 39 37 true 1 false 38,
 og 40 37 true (.bin .neq (.t 39) oE),
 oM 41 37 true 40,
 oH 42 41 false 1 1 4,
 oG 43 41 false 1 false 42,
 og 44 41 false (.len .slice (.t 43)),
 og 45 41 false (.bin .gtr (.t 44) oA),
 og 46 37 true (.pick (.t 41) oC (.t 45)),
 og 47 34 false (.pick (.t 37) (.t 46) oD),
 oz 48 (.pick (.t 34) oC (.t 47))]
def f23.r3 : List IOper := [
 oz 6 (.mv (.c (.nils))),
 oz 7 (.mv oB)]
def f23.r4 : List IOper := [
 oz 9 (.mv (.c (.nils)))]
def f23.r5 : List IOper := [
 oF 49 8 1 3,
 oL 50 1 false 49,
 oF 51 10 3 3,
 oL 52 3 true 51,
 oz 53 (.mkSlice 3 1 oT [(0, 3, (.t 52))]),
 oz 54 (.mkSlice 1 2 [.nils, .nils] [(0, 1, (.t 50)), (1, 1, (.t 53))]),
 oR 55 60 54,
 oN 56 55,
 oz 57 (.mv oA)]
def f23.r6 : List IOper := [
 oz 58 (.bin .lss (.t 57) (.t 56))]
def f23.r7 : List IOper := [
 om 59 57,
 oI 60 3 55 57,
 oL 61 3 true 60,
 oz 11 (.alloc oT),
 om 10 59,
 oy (.store 3 (.t 11) (.t 61))]
def f23.r8 : List IOper := [
 om 62 10,
 oF 63 8 1 3,
 oL 64 1 false 63,
 oN 65 64,
 oz 66 (.bin .eql (.t 62) (.t 65)),
 om 12 66]
def f23.r9 : List IOper := [
 oF 67 13 3 3,
 oL 68 3 true 67,
 om 69 8,
 oz 13 (.alloc oT),
 oy (.store 3 (.t 13) (.t 68)),
 om 14 69]
def f23.r10 : List IOper := [
 om 70 12,
 oz 71 (.un .not (.t 70))]
def f23.r11 : List IOper := [
 oF 72 9 1 3,
 oV 73 [0] (.load 1 false (.t 72)),
 om 74 10,
 oV 75 [1, 2] (.iaddr 3 (.t 73) (.t 74)),
 oV 76 [3] (.load 3 true (.t 75)),
 om 77 2,
 om 78 10,
 oV 79 [5, 6] (.iaddr 1 (.t 77) (.t 78)),
 oV 80 [7] (.load 1 false (.t 79)),
⟨none, .store 3 (.t 13) (.t 76), none, [4, 0, 1, 2, 3, 4]⟩,
 oV 14 [8, 9, 0, 1, 2, 3, 4, 5, 6, 7, 8, 9] (.mv (.t 80))]
def f23.r12 : List IOper := [
 om 81 14]
def f23.r13 : List IOper := [
 oz 15 (.mv oA)]
def f23.r14 : List IOper := [
 oL 83 2 true 4,
 oL 84 3 true 13,
 oz 85 (.call 61 [(.t 83), (.t 84)]),
 om 82 85,
 oX 86 82 0,
 oX 87 82 1,
 oy (.store 3 (.t 13) (.t 86)),
 om 15 87]
def f23.r15 : List IOper := [
 om 88 15,
 oz 89 (.bin .neq (.t 88) oA)]
def f23.r16 : List IOper := [
 om 90 15,
 oz 6 (.mv (.c (.nils))),
 om 7 90]
def f23.r17 : List IOper := [
 om 91 9,
 oL 92 3 true 11,
 oL 93 3 true 13,
 oz 94 (.build [.d (.str []), .d (.str []), .nils, .d (.str []), .d (.str []), .nils] [(0, 3, (.t 92)), (3, 3, (.t 93))]),
 oz 95 (.mkSlice 6 1 [.d (.str []), .d (.str []), .nils, .d (.str []), .d (.str []), .nils] [(0, 6, (.t 94))]),
 oz 96 (.append 6 112 (.t 91) (.t 95)),
 om 9 96]
def f23.r18 : List IOper := [
 oz 97 (.bin .add (.t 57) oB),
 om 57 97]
def f23.l19 : IR := (.seq (.region f23.r6) (.seq (.cond (.t 58) .skip (.exit 0)) (.seq (.block 1 (.seq (.region f23.r7) (.seq (.region f23.r8) (.seq (.region f23.r9) (.seq (.seq (.region f23.r10) (.cond (.t 71) (.draw f23.r11) .skip)) (.seq (.seq (.region f23.r12) (.cond (.t 81) (.seq (.region f23.r13) (.seq (.region f23.r14) (.seq (.region f23.r15) (.cond (.t 89) (.seq (.region f23.r16) .ret) .skip)))) .skip)) (.region f23.r17))))))) (.region f23.r18))))
def f23.r20 : List IOper := [
 om 98 9,
 om 6 98,
 oz 7 (.mv oA)]
def f23 : IFn := ⟨3, 99, [.t 6, .t 7], (.seq (.region f23.r0) (.seq (.region f23.r1) (.seq (.seq (.region f23.r2) (.cond (.t 48) (.seq (.region f23.r3) .ret) .skip)) (.seq (.region f23.r4) (.seq (.seq (.region f23.r5) (.block 0 (.loop f23.l19))) (.seq (.region f23.r20) .ret))))))⟩
def f27.r0 : List IOper := [
 oz 3 (.box 18 (.t 0)),
 oz 4 (.box 2 (.t 1)),
 oz 6 (.mv oD)]
def f27.r1 : List IOper := [
 oL 10 18 true 3,
 oL 11 2 true 4,
 om 12 2,
 oz 13 (.call 23 [(.t 10), (.t 11), (.t 12)]),
 om 9 13,
 oX 14 9 0,
 oX 15 9 1,
 om 7 14,
 om 8 15]
def f27.r2 : List IOper := [
 om 16 8,
 oz 17 (.bin .eql (.t 16) oA),
 om 18 17,
 oM 19 18 true 7,
 og 20 18 true (.call 66 [(.t 19), (.f 67)]),
 og 21 18 true (.un .not (.t 20)),
 oz 22 (.pick (.t 18) (.t 21) oD),
 om 6 22]
def f27 : IFn := ⟨3, 23, [.t 6], (.seq (.region f27.r0) (.seq (.region f27.r1) (.seq (.region f27.r2) .ret)))⟩
def f32.r0 : List IOper := [
 oz 1 (.box 3 (.t 0)),
 oz 2 (.mv oD)]
def f32.r1 : List IOper := [
 oF 3 0 1 1,
 oL 4 1 false 3,
 oz 5 (.len .str (.t 4)),
 oz 6 (.bin .leq (.t 5) (.c (.d (.int .i64 35)))),
 om 7 6,
 oH 8 7 true 1 2 1,
 oG 9 7 true 2 true 8,
 og 10 7 true (.call 22 [(.t 9)]),
 oz 11 (.pick (.t 7) (.t 10) oD),
 om 2 11]
def f32 : IFn := ⟨1, 12, [.t 2], (.seq (.region f32.r0) (.seq (.region f32.r1) .ret))⟩
def f34.r0 : List IOper := [
 oz 4 (.mv (.c (.nils))),
 oz 5 (.mv (.c (.nils))),
 oz 6 (.mv oA)]
def f34.r1 : List IOper := [
 oz 7 (.alloc [.nilf]),
 oy (.store 1 (.t 7) (.f 80))]
def f34.r2 : List IOper := [
 om 12 0,
 oN 13 12,
 om 14 1,
 oN 15 14,
 oz 16 (.bin .neq (.t 13) (.t 15)),
 om 17 16,
 oM 18 17 false 0,
 og 19 17 false (.len .slice (.t 18)),
 og 20 17 false (.bin .gtr (.t 19) (.c (.d (.int .i64 16)))),
 oz 21 (.pick (.t 17) oC (.t 20)),
 om 22 21,
 oM 23 22 false 1,
 oG 24 22 false 1 false 7,
 og 25 22 false (.call 81 [(.t 23), (.t 24)]),
 oz 26 (.pick (.t 22) oC (.t 25)),
 om 27 26,
 oM 28 27 false 0,
 og 29 27 false (.mkfunc 83 [] [(.t 7)]),
 og 30 27 false (.call 82 [(.t 28), (.t 29)]),
 oz 31 (.pick (.t 27) oC (.t 30))]
def f34.r3 : List IOper := [
 oz 4 (.mv (.c (.nils))),
 oz 5 (.mv (.c (.nils))),
 oz 6 (.mv oB)]
def f34.r4 : List IOper := [
 oz 8 (.mv oC)]
def f34.r5 : List IOper := [
 om 32 0,
 oN 33 32,
 oz 34 (.mv oA)]
def f34.r6 : List IOper := [
 oz 35 (.bin .lss (.t 34) (.t 33))]
def f34.r7 : List IOper := [
 om 36 34,
 oI 37 1 32 34,
 oL 38 1 false 37,
 om 9 36,
 om 10 38]
def f34.r8 : List IOper := [
 om 39 10,
 oN 40 39,
 om 41 1,
 om 42 9,
 oI 43 1 41 42,
 oL 44 1 false 43,
 oz 45 (.bin .sub (.t 40) (.t 44)),
 om 11 45]
def f34.r9 : List IOper := [
 om 46 11,
 oz 47 (.bin .lss (.t 46) oA),
 om 48 47,
 oM 49 48 false 11,
 og 50 48 false (.bin .gtr (.t 49) oA),
 oM 51 48 false 50,
 oM 52 51 true 4,
 og 53 51 true (.len .slice (.t 52)),
 og 54 51 true (.bin .gtr (.t 53) oA),
 og 55 48 false (.pick (.t 51) (.t 54) oD),
 oM 56 48 false 55,
 oM 57 56 true 11,
 oM 58 56 true 4,
 og 59 56 true (.len .slice (.t 58)),
 og 60 56 true (.bin .neq (.t 57) (.t 59)),
 og 61 48 false (.pick (.t 56) (.t 60) oD),
 oz 62 (.pick (.t 48) oC (.t 61))]
def f34.r10 : List IOper := [
 oz 4 (.mv (.c (.nils))),
 oz 5 (.mv (.c (.nils))),
 oz 6 (.mv (.c (.d (.int .i64 13))))]
def f34.r11 : List IOper := [
 om 63 11,
 oz 64 (.bin .gtr (.t 63) oA),
 om 65 64,
 oM 66 65 true 4,
 og 67 65 true (.len .slice (.t 66)),
 og 68 65 true (.bin .eql (.t 67) oA),
 oz 69 (.pick (.t 65) (.t 68) oD)]
def f34.r12 : List IOper := [
 om 70 10,
 om 71 11,
 oz 72 (.lslice 1 (.t 70) none (some (.t 71))),
 oR 73 84 72,
 om 4 73]
def f34.r13 : List IOper := [
 om 74 8,
 om 75 74,
 oM 76 75 true 11,
 og 77 75 true (.bin .eql (.t 76) oA),
 oM 78 75 true 77,
 oM 79 78 false 4,
 oM 80 78 false 10,
 oM 81 78 false 11,
 og 82 78 false (.lslice 1 (.t 80) none (some (.t 81))),
 og 83 78 false (.call 85 [(.t 79), (.t 82)]),
 og 84 75 true (.pick (.t 78) oC (.t 83)),
 oz 85 (.pick (.t 75) (.t 84) oD),
 om 8 85]
def f34.r14 : List IOper := [
 om 86 5,
 om 87 11,
 oz 88 (.bin .gtr (.t 87) oA),
 oz 89 (.mkSlice 1 1 [.d (.bool false)] [(0, 1, (.t 88))]),
 oz 90 (.append 1 1 (.t 86) (.t 89)),
 om 5 90]
def f34.r15 : List IOper := [
 oz 91 (.bin .add (.t 34) oB),
 om 34 91]
def f34.l16 : IR := (.seq (.region f34.r6) (.seq (.cond (.t 35) .skip (.exit 0)) (.seq (.block 1 (.seq (.region f34.r7) (.seq (.region f34.r8) (.seq (.seq (.region f34.r9) (.cond (.t 62) (.seq (.region f34.r10) .ret) .skip)) (.seq (.seq (.region f34.r11) (.cond (.t 69) (.region f34.r12) .skip)) (.seq (.region f34.r13) (.region f34.r14))))))) (.region f34.r15))))
def f34.r17 : List IOper := [
 om 92 8,
 oz 93 (.un .not (.t 92))]
def f34.r18 : List IOper := [
 oz 4 (.mv (.c (.nils))),
 oz 5 (.mv (.c (.nils))),
 oz 6 (.mv (.c (.d (.int .i64 14))))]
def f34.r19 : List IOper := [
 om 94 4,
 om 95 5,
 om 4 94,
 om 5 95,
 oz 6 (.mv oA)]
def f34 : IFn := ⟨2, 96, [.t 4, .t 5, .t 6], (.seq (.region f34.r0) (.seq (.region f34.r1) (.seq (.seq (.region f34.r2) (.cond (.t 31) (.seq (.region f34.r3) .ret) .skip)) (.seq (.region f34.r4) (.seq (.seq (.region f34.r5) (.block 0 (.loop f34.l16))) (.seq (.seq (.region f34.r17) (.cond (.t 93) (.seq (.region f34.r18) .ret) .skip)) (.seq (.region f34.r19) .ret)))))))⟩
def f36.r0 : List IOper := [
 oz 4 (.mv oD)]
def f36.r1 : List IOper := [
 om 6 0,
 oN 7 6,
 om 8 1,
 oN 9 8,
 oz 10 (.bin .neq (.t 7) (.t 9))]
def f36.r2 : List IOper := [
 oz 4 (.mv oD)]
def f36.r3 : List IOper := [
 oz 5 (.mv oA)]
def f36.r4 : List IOper := [
 om 11 5,
 om 12 0,
 oN 13 12,
 oz 14 (.bin .lss (.t 11) (.t 13))]
def f36.r5 : List IOper := [
 om 17 0,
 om 18 5,
 oV 19 [0, 1] (.iaddr 1 (.t 17) (.t 18)),
 oV 20 [2] (.load 1 false (.t 19)),
 om 21 1,
 om 22 5,
 oV 23 [4, 5] (.iaddr 1 (.t 21) (.t 22)),
 oV 24 [6] (.load 1 false (.t 23)),
 oV 25 [3, 7] (.bin .neq (.t 20) (.t 24))]
def f36.r6 : List IOper := [
 oz 4 (.mv oD)]
def f36.r7 : List IOper := [
 om 15 5,
 oz 16 (.bin .add (.t 15) oB),
 om 5 16]
def f36.l8 : IR := (.seq (.seq (.region f36.r4) (.cond (.t 14) .skip (.exit 0))) (.seq (.block 1 (.seq (.draw f36.r5) (.cond (.t 25) (.seq (.region f36.r6) .ret) .skip))) (.region f36.r7)))
def f36.r9 : List IOper := [
 oz 4 (.mv oC)]
def f36 : IFn := ⟨2, 26, [.t 4], (.seq (.region f36.r0) (.seq (.seq (.region f36.r1) (.cond (.t 10) (.seq (.region f36.r2) .ret) .skip)) (.seq (.seq (.region f36.r3) (.block 0 (.loop f36.l8))) (.seq (.region f36.r9) .ret))))⟩
def f37.r0 : List IOper := [
 oz 2 (.box 2 (.t 0)),
 oz 4 (.mv (.c (.nils))),
 oz 5 (.mv oA)]
def f37.r1 : List IOper := [
 oL 11 2 true 2,
 oR 12 63 11,
 oz 13 (.un .not (.t 12)),
 om 10 13]
def f37.r2 : List IOper := [
 oz 4 (.mv (.c (.nils))),
 oz 5 (.mv oB)]
def f37.r3 : List IOper := [
 oF 15 0 1 2,
 oL 16 1 false 15,
 oz 17 (.bin .neq (.t 16) oE),
 om 14 17]
def f37.r4 : List IOper := [
 oz 4 (.mv (.c (.nils))),
 oz 5 (.mv (.c (.d (.int .i64 13))))]
def f37.r5 : List IOper := [
 oz 6 (.mv (.c (.nils)))]
def f37.r6 : List IOper := [
 oz 7 (.mv oA)]
def f37.r7 : List IOper := [
 om 18 7,
 oF 19 1 1 2,
 oL 20 1 false 19,
 oN 21 20,
 oz 22 (.bin .lss (.t 18) (.t 21))]
def f37.r8 : List IOper := [
 oF 26 1 1 2,
 oL 27 1 false 26,
 om 28 7,
 oI 29 2 27 28,
 oL 30 2 true 29,
 om 31 1,
 oz 32 (.call 86 [(.t 30), (.t 31)]),
 om 25 32,
 oX 33 25 0,
 oX 34 25 1,
 om 8 33,
 om 9 34]
def f37.r9 : List IOper := [
 om 35 9,
 oz 36 (.bin .neq (.t 35) oA)]
def f37.r10 : List IOper := [
 om 37 9,
 oz 4 (.mv (.c (.nils))),
 om 5 37]
def f37.r11 : List IOper := [
 om 38 8,
 oz 39 (.bin .lss (.t 38) oA),
 om 40 39,
 oM 41 40 false 8,
 og 42 40 false (.bin .gtr (.t 41) (.c (.d (.int .i64 4096)))),
 oz 43 (.pick (.t 40) oC (.t 42))]
def f37.r12 : List IOper := [
 oz 4 (.mv (.c (.nils))),
 oz 5 (.mv (.c (.d (.int .i64 2))))]
def f37.r13 : List IOper := [
 om 44 6,
 om 45 8,
 oz 46 (.mkSlice 1 1 [.d (.int .i64 0)] [(0, 1, (.t 45))]),
 oz 47 (.append 1 8 (.t 44) (.t 46)),
 om 6 47]
def f37.r14 : List IOper := [
 om 23 7,
 oz 24 (.bin .add (.t 23) oB),
 om 7 24]
def f37.l15 : IR := (.seq (.seq (.region f37.r7) (.cond (.t 22) .skip (.exit 1))) (.seq (.block 2 (.seq (.region f37.r8) (.seq (.seq (.region f37.r9) (.cond (.t 36) (.seq (.region f37.r10) .ret) .skip)) (.seq (.seq (.region f37.r11) (.cond (.t 43) (.seq (.region f37.r12) .ret) .skip)) (.region f37.r13))))) (.region f37.r14)))
def f37.r16 : List IOper := [
 om 48 6,
 om 4 48,
 oz 5 (.mv oA)]
def f37 : IFn := ⟨2, 49, [.t 4, .t 5], (.seq (.region f37.r0) (.seq (.block 0 (.seq (.region f37.r1) (.cond (.t 10) (.seq (.region f37.r2) .ret) (.seq (.region f37.r3) (.cond (.t 14) (.seq (.region f37.r4) .ret) .skip))))) (.seq (.region f37.r5) (.seq (.seq (.region f37.r6) (.block 1 (.loop f37.l15))) (.seq (.region f37.r16) .ret)))))⟩
def f50.r0 : List IOper := [
 oz 2 (.box 2 (.t 0)),
 oz 4 (.alloc oS),
 oz 5 (.alloc oS),
 oz 6 (.mv oA)]
def f50.r1 : List IOper := [
 oL 9 2 true 2,
 oR 10 59 9,
 oz 11 (.un .not (.t 10)),
 om 8 11]
def f50.r2 : List IOper := [
 oz 12 (.build oS []),
 oz 13 (.build oS []),
 oy (.store 2 (.t 4) (.t 12)),
 oy (.store 2 (.t 5) (.t 13)),
 oz 6 (.mv oB)]
def f50.r3 : List IOper := [
 om 15 1,
 oz 16 (.bin .lss (.t 15) oA),
 om 14 16]
def f50.r4 : List IOper := [
 oz 17 (.build oS []),
 oz 18 (.build oS []),
 oy (.store 2 (.t 4) (.t 17)),
 oy (.store 2 (.t 5) (.t 18)),
 oz 6 (.mv (.c (.d (.int .i64 2))))]
def f50.r5 : List IOper := [
 om 20 1,
 oF 21 1 1 2,
 oL 22 1 false 21,
 oN 23 22,
 oz 24 (.bin .gtr (.t 20) (.t 23)),
 om 19 24]
def f50.r6 : List IOper := [
 oz 25 (.build oS []),
 oz 26 (.build oS []),
 oy (.store 2 (.t 4) (.t 25)),
 oy (.store 2 (.t 5) (.t 26)),
 oz 6 (.mv (.c (.d (.int .i64 13))))]
def f50.r7 : List IOper := [
 oF 27 1 1 2,
 oL 28 1 false 27,
 oN 29 28,
 om 30 1,
 oz 31 (.bin .sub (.t 29) (.t 30)),
 om 7 31]
def f50.r8 : List IOper := [
 oF 32 0 1 2,
 oV 33 [0] (.load 1 false (.t 32)),
 oF 34 1 1 2,
 oV 35 [2] (.load 1 false (.t 34)),
 om 36 7,
 oV 37 [3, 4] (.lslice 2 (.t 35) none (some (.t 36))),
 oV 38 [5] (.call 110 [(.t 37)]),
 oV 39 [1, 6] (.build oS [(0, 1, (.t 33)), (1, 1, (.t 38))]),
 oF 40 1 1 2,
 oV 41 [8] (.load 1 false (.t 40)),
 om 42 7,
 oV 43 [9, 10] (.lslice 2 (.t 41) (some (.t 42)) none),
 oV 44 [11, 6] (.call 110 [(.t 43)]),
 oV 45 [12] (.build oS [(1, 1, (.t 44))]),
⟨none, .store 2 (.t 4) (.t 39), none, [7, 12, 0, 1, 2, 3, 4, 5, 6, 7]⟩,
⟨none, .store 2 (.t 5) (.t 45), none, [13, 14, 0, 1, 2, 3, 4, 5, 6, 7, 8, 9, 10, 11, 12, 13, 14]⟩,
 oV 6 [15, 0, 1, 2, 3, 4, 5, 6, 7, 8, 9, 10, 11, 12, 13, 14, 15] (.mv oA)]
def f50 : IFn := ⟨2, 46, [.cell 4 2 true, .cell 5 2 true, .t 6], (.seq (.region f50.r0) (.seq (.block 0 (.seq (.region f50.r1) (.cond (.t 8) (.seq (.region f50.r2) .ret) (.seq (.region f50.r3) (.cond (.t 14) (.seq (.region f50.r4) .ret) (.seq (.region f50.r5) (.cond (.t 19) (.seq (.region f50.r6) .ret) .skip))))))) (.seq (.region f50.r7) (.seq (.draw f50.r8) .ret))))⟩
def f51.r0 : List IOper := [
 oz 1 (.box 3 (.t 0)),
 oz 2 (.mv oD)]
def f51.r1 : List IOper := [
 oF 3 0 1 1,
 oL 4 1 false 3,
 oz 5 (.bin .eql (.t 4) (.c (.d (.str [105, 110, 116])))),
 om 6 5,
 oH 7 6 false 0 1 1,
 oG 8 6 false 1 false 7,
 og 9 6 false (.bin .eql (.t 8) (.c (.d (.str [98, 111, 111, 108])))),
 oz 10 (.pick (.t 6) oC (.t 9)),
 om 11 10,
 oH 12 11 false 0 1 1,
 oG 13 11 false 1 false 12,
 og 14 11 false (.call 111 [(.t 13)]),
 oz 15 (.pick (.t 11) oC (.t 14)),
 om 16 15,
 oH 17 16 true 1 2 1,
 oG 18 16 true 2 true 17,
 og 19 16 true (.call 59 [(.t 18)]),
 oz 20 (.pick (.t 16) (.t 19) oD),
 om 2 20]
def f51 : IFn := ⟨1, 21, [.t 2], (.seq (.region f51.r0) (.seq (.region f51.r1) .ret))⟩
def f52.r0 : List IOper := [
 oz 1 (.box 3 (.t 0)),
 oz 2 (.mv oD)]
def f52.r1 : List IOper := [
 oL 3 3 true 1,
 oR 4 51 3,
 oz 5 (.un .not (.t 4)),
 om 2 5]
def f52 : IFn := ⟨1, 6, [.t 2], (.seq (.region f52.r0) (.seq (.region f52.r1) .ret))⟩
def f53.r0 : List IOper := [
 oz 4 (.mv oD)]
def f53.r1 : List IOper := [
 om 5 0,
 om 6 1,
 oz 7 (.call 112 [(.t 5), (.t 6)]),
 oz 8 (.bin .geq (.t 7) oA),
 om 4 8]
def f53 : IFn := ⟨2, 9, [.t 4], (.seq (.region f53.r0) (.seq (.region f53.r1) .ret))⟩
def f54.r0 : List IOper := [
 oz 2 (.box 3 (.t 0)),
 oz 3 (.mv oD)]
def f54.r1 : List IOper := [
 oL 4 1 false 1,
 oL 5 3 true 2,
 oz 6 (.callv (.t 4) [(.t 5)]),
 om 7 6,
 oH 8 7 false 1 2 2,
 oH 9 7 false 0 1 8,
 oG 10 7 false 1 false 9,
 og 11 7 false (.bin .neq (.t 10) oE),
 oz 12 (.pick (.t 7) oC (.t 11)),
 om 3 12]
def f54 : IFn := ⟨2, 13, [.t 3], (.seq (.region f54.r0) (.seq (.region f54.r1) .ret))⟩
def f57.r0 : List IOper := [
 oz 1 (.box 2 (.t 0)),
 oz 2 (.mv oD)]
def f57.r1 : List IOper := [
 oz 3 (.mv oA)]
def f57.r2 : List IOper := [
 om 4 3,
 oF 5 1 1 1,
 oL 6 1 false 5,
 oN 7 6,
 oz 8 (.bin .lss (.t 4) (.t 7))]
def f57.r3 : List IOper := [
 oF 11 1 1 1,
 oL 12 1 false 11,
 om 13 3,
 oI 14 2 12 13,
 oF 15 0 1 14,
 oL 16 1 false 15,
 oz 17 (.len .str (.t 16)),
 oz 18 (.bin .gtr (.t 17) (.c (.d (.int .i64 35))))]
def f57.r4 : List IOper := [
 oz 2 (.mv oD)]
def f57.r5 : List IOper := [
 om 9 3,
 oz 10 (.bin .add (.t 9) oB),
 om 3 10]
def f57.l6 : IR := (.seq (.seq (.region f57.r2) (.cond (.t 8) .skip (.exit 0))) (.seq (.block 1 (.seq (.region f57.r3) (.cond (.t 18) (.seq (.region f57.r4) .ret) .skip))) (.region f57.r5)))
def f57.r7 : List IOper := [
 oF 19 1 1 1,
 oL 20 1 false 19,
 oN 21 20,
 oz 22 (.bin .leq (.t 21) (.c (.d (.int .i64 14)))),
 om 2 22]
def f57 : IFn := ⟨1, 23, [.t 2], (.seq (.region f57.r0) (.seq (.seq (.region f57.r1) (.block 0 (.loop f57.l6))) (.seq (.region f57.r7) .ret)))⟩
def f58.r0 : List IOper := [
 oz 4 (.mv oD)]
def f58.r1 : List IOper := [
 om 5 0,
 om 6 1,
 oz 7 (.call 114 [(.t 5), (.t 6)]),
 oz 8 (.bin .geq (.t 7) oA),
 om 4 8]
def f58 : IFn := ⟨2, 9, [.t 4], (.seq (.region f58.r0) (.seq (.region f58.r1) .ret))⟩
def f59.r0 : List IOper := [
 oz 1 (.box 2 (.t 0)),
 oz 2 (.mv oD)]
def f59.r1 : List IOper := [
 oF 3 0 1 1,
 oL 4 1 false 3,
 oz 5 (.bin .eql (.t 4) oE),
 om 6 5,
 oH 7 6 false 0 1 1,
 oG 8 6 false 1 false 7,
 og 9 6 false (.call 115 [(.t 8)]),
 oz 10 (.pick (.t 6) oC (.t 9)),
 om 11 10,
 oH 12 11 true 1 1 1,
 oG 13 11 true 1 false 12,
 og 14 11 true (.len .slice (.t 13)),
 og 15 11 true (.bin .leq (.t 14) (.c (.d (.int .i64 6)))),
 oz 16 (.pick (.t 11) (.t 15) oD),
 om 17 16,
 oH 18 17 true 1 1 1,
 oG 19 17 true 1 false 18,
 og 20 17 true (.call 116 [(.t 19), (.f 117)]),
 og 21 17 true (.un .not (.t 20)),
 oz 22 (.pick (.t 17) (.t 21) oD),
 om 2 22]
def f59 : IFn := ⟨1, 23, [.t 2], (.seq (.region f59.r0) (.seq (.region f59.r1) .ret))⟩
def f60.r0 : List IOper := [
 oz 2 (.mv (.c (.nils)))]
def f60.r1 : List IOper := [
 oz 3 (.mv oA)]
def f60.r2 : List IOper := [
 om 9 0,
 oN 10 9,
 oz 11 (.mv oA)]
def f60.r3 : List IOper := [
 oz 12 (.bin .lss (.t 11) (.t 10))]
def f60.r4 : List IOper := [
 oI 13 1 9 11,
 oL 14 1 false 13,
 om 5 14]
def f60.r5 : List IOper := [
 om 15 3,
 om 16 5,
 oN 17 16,
 oz 18 (.bin .add (.t 15) (.t 17)),
 om 3 18]
def f60.r6 : List IOper := [
 om 19 3,
 oz 20 (.bin .lss (.t 19) oA)]
def f60.r7 : List IOper := [
 oz 21 (.mkiface 9 (.c (.d (.str [108, 101, 110, 32, 111, 117, 116, 32, 111, 102, 32, 114, 97, 110, 103, 101])))),
 oy (.bad)]
def f60.r8 : List IOper := [
 oz 22 (.bin .add (.t 11) oB),
 om 11 22]
def f60.l9 : IR := (.seq (.region f60.r3) (.seq (.cond (.t 12) .skip (.exit 0)) (.seq (.block 1 (.seq (.region f60.r4) (.seq (.region f60.r5) (.seq (.region f60.r6) (.cond (.t 20) (.region f60.r7) .skip))))) (.region f60.r8))))
def f60.r10 : List IOper := [
 om 23 3,
 oz 24 (.call 118 [(.c (.nils)), (.t 23)]),
 om 6 24]
def f60.r11 : List IOper := [
 om 25 0,
 oN 26 25,
 oz 27 (.mv oA)]
def f60.r12 : List IOper := [
 oz 28 (.bin .lss (.t 27) (.t 26))]
def f60.r13 : List IOper := [
 oI 29 1 25 27,
 oL 30 1 false 29,
 om 8 30]
def f60.r14 : List IOper := [
 om 31 6,
 om 32 8,
 oz 33 (.append 3 56 (.t 31) (.t 32)),
 om 6 33]
def f60.r15 : List IOper := [
 oz 34 (.bin .add (.t 27) oB),
 om 27 34]
def f60.l16 : IR := (.seq (.region f60.r12) (.seq (.cond (.t 28) .skip (.exit 2)) (.seq (.block 3 (.seq (.region f60.r13) (.region f60.r14))) (.region f60.r15))))
def f60.r17 : List IOper := [
 om 35 6,
 om 2 35]
def f60 : IFn := ⟨1, 36, [.t 2], (.seq (.region f60.r0) (.seq (.region f60.r1) (.seq (.seq (.region f60.r2) (.block 0 (.loop f60.l9))) (.seq (.region f60.r10) (.seq (.seq (.region f60.r11) (.block 2 (.loop f60.l16))) (.seq (.region f60.r17) .ret))))))⟩
def f61.r0 : List IOper := [
 oz 2 (.box 2 (.t 0)),
 oz 3 (.box 3 (.t 1)),
 oz 4 (.alloc oT),
 oz 5 (.mv oA)]
def f61.r1 : List IOper := [
 oL 9 2 true 2,
 oF 10 1 2 3,
 oL 11 2 true 10,
 oz 12 (.call 119 [(.t 9), (.t 11)]),
 om 8 12,
 oX 13 8 0,
 oX 14 8 1,
 oz 6 (.alloc oS),
 oy (.store 2 (.t 6) (.t 13)),
 om 7 14]
def f61.r2 : List IOper := [
 oF 15 0 1 3,
 oL 16 1 false 15,
 oL 17 2 true 6,
 oz 18 (.build oT [(0, 1, (.t 16)), (1, 2, (.t 17))]),
 om 19 7,
 oy (.store 3 (.t 4) (.t 18)),
 om 5 19]
def f61 : IFn := ⟨2, 20, [.cell 4 3 true, .t 5], (.seq (.region f61.r0) (.seq (.region f61.r1) (.seq (.region f61.r2) .ret)))⟩
def f63.r0 : List IOper := [
 oz 1 (.box 2 (.t 0)),
 oz 2 (.mv oD)]
def f63.r1 : List IOper := [
 oz 3 (.mv oA)]
def f63.r2 : List IOper := [
 om 4 3,
 oF 5 1 1 1,
 oL 6 1 false 5,
 oN 7 6,
 oz 8 (.bin .lss (.t 4) (.t 7))]
def f63.r3 : List IOper := [
 oF 11 1 1 1,
 oL 12 1 false 11,
 om 13 3,
 oI 14 2 12 13,
 oL 15 2 true 14,
 oR 16 97 15,
 oz 17 (.un .not (.t 16))]
def f63.r4 : List IOper := [
 oz 2 (.mv oD)]
def f63.r5 : List IOper := [
 om 9 3,
 oz 10 (.bin .add (.t 9) oB),
 om 3 10]
def f63.l6 : IR := (.seq (.seq (.region f63.r2) (.cond (.t 8) .skip (.exit 0))) (.seq (.block 1 (.seq (.region f63.r3) (.cond (.t 17) (.seq (.region f63.r4) .ret) .skip))) (.region f63.r5)))
def f63.r7 : List IOper := [
 oF 18 1 1 1,
 oL 19 1 false 18,
 oN 20 19,
 oz 21 (.bin .leq (.t 20) (.c (.d (.int .i64 6)))),
 om 22 21,
 oH 23 22 true 0 1 1,
 oG 24 22 true 1 false 23,
 og 25 22 true (.bin .eql (.t 24) oE),
 oM 26 22 true 25,
 oH 27 26 false 0 1 1,
 oG 28 26 false 1 false 27,
 og 29 26 false (.call 120 [(.t 28)]),
 og 30 22 true (.pick (.t 26) oC (.t 29)),
 oz 31 (.pick (.t 22) (.t 30) oD),
 om 2 31]
def f63 : IFn := ⟨1, 32, [.t 2], (.seq (.region f63.r0) (.seq (.seq (.region f63.r1) (.block 0 (.loop f63.l6))) (.seq (.region f63.r7) .ret)))⟩
def f64.r0 : List IOper := [
 oz 3 (.box 3 (.t 0)),
 oz 4 (.box 2 (.t 1)),
 oz 6 (.alloc oT),
 oz 7 (.mv oA)]
def f64.r1 : List IOper := [
 om 10 2,
 oz 11 (.un .not (.t 10))]
def f64.r2 : List IOper := [
 oL 12 3 true 3,
 oy (.store 3 (.t 6) (.t 12)),
 oz 7 (.mv oA)]
def f64.r3 : List IOper := [
 oL 14 2 true 4,
 oF 15 1 2 3,
 oL 16 2 true 15,
 oz 17 (.call 121 [(.t 14), (.t 16)]),
 om 13 17,
 oX 18 13 0,
 oX 19 13 1,
 oz 8 (.alloc oS),
 oy (.store 2 (.t 8) (.t 18)),
 om 9 19]
def f64.r4 : List IOper := [
 om 20 9,
 oz 21 (.bin .neq (.t 20) oA)]
def f64.r5 : List IOper := [
 oz 22 (.build oT []),
 om 23 9,
 oy (.store 3 (.t 6) (.t 22)),
 om 7 23]
def f64.r6 : List IOper := [
 oF 24 0 1 3,
 oL 25 1 false 24,
 oL 26 2 true 8,
 oz 27 (.build oT [(0, 1, (.t 25)), (1, 2, (.t 26))]),
 oy (.store 3 (.t 6) (.t 27)),
 oz 7 (.mv oA)]
def f64 : IFn := ⟨3, 28, [.cell 6 3 true, .t 7], (.seq (.region f64.r0) (.seq (.seq (.region f64.r1) (.cond (.t 11) (.seq (.region f64.r2) .ret) .skip)) (.seq (.region f64.r3) (.seq (.seq (.region f64.r4) (.cond (.t 21) (.seq (.region f64.r5) .ret) .skip)) (.seq (.region f64.r6) .ret)))))⟩
def f66.r0 : List IOper := [
 oz 4 (.mv oD)]
def f66.r1 : List IOper := [
 om 5 0,
 om 6 1,
 oz 7 (.call 122 [(.t 5), (.t 6)]),
 oz 8 (.bin .geq (.t 7) oA),
 om 4 8]
def f66 : IFn := ⟨2, 9, [.t 4], (.seq (.region f66.r0) (.seq (.region f66.r1) .ret))⟩
def f67.r0 : List IOper := [
 oz 1 (.box 6 (.t 0)),
 oz 2 (.mv oD)]
def f67.r1 : List IOper := [
 oF 3 0 3 1,
 oL 4 3 true 3,
 oF 5 3 3 1,
 oL 6 3 true 5,
 oz 7 (.call 68 [(.t 4), (.t 6)]),
 oz 8 (.un .not (.t 7)),
 om 2 8]
def f67 : IFn := ⟨1, 9, [.t 2], (.seq (.region f67.r0) (.seq (.region f67.r1) .ret))⟩
def f68.r0 : List IOper := [
 oz 2 (.box 3 (.t 0)),
 oz 3 (.box 3 (.t 1)),
 oz 4 (.mv oD)]
def f68.r1 : List IOper := [
 oF 5 0 1 2,
 oL 6 1 false 5,
 oF 7 0 1 3,
 oL 8 1 false 7,
 oz 9 (.bin .eql (.t 6) (.t 8)),
 om 10 9,
 oH 11 10 true 1 2 2,
 oG 12 10 true 2 true 11,
 oH 13 10 true 1 2 3,
 oG 14 10 true 2 true 13,
 og 15 10 true (.call 123 [(.t 12), (.t 14)]),
 oz 16 (.pick (.t 10) (.t 15) oD),
 om 4 16]
def f68 : IFn := ⟨2, 17, [.t 4], (.seq (.region f68.r0) (.seq (.region f68.r1) .ret))⟩
def f78.r0 : List IOper := [
 oz 6 (.alloc oS),
 oz 7 (.mv oA)]
def f78.r1 : List IOper := [
 om 8 1,
 oN 9 8,
 om 10 2,
 oN 11 10,
 oz 12 (.bin .add (.t 9) (.t 11)),
 oz 13 (.bin .gtr (.t 12) (.c (.d (.int .i64 6))))]
def f78.r2 : List IOper := [
 oz 14 (.build oS []),
 oy (.store 2 (.t 6) (.t 14)),
 oz 7 (.mv (.c (.d (.int .i64 3))))]
def f78.r3 : List IOper := [
 om 15 0,
 oz 16 (.mkSlice 2 0 [] []),
 om 17 1,
 oz 18 (.append 2 32 (.t 16) (.t 17)),
 om 19 2,
 oz 20 (.append 2 32 (.t 18) (.t 19)),
 oz 21 (.build oS [(0, 1, (.t 15)), (1, 1, (.t 20))]),
 oy (.store 2 (.t 6) (.t 21)),
 oz 7 (.mv oA)]
def f78 : IFn := ⟨3, 22, [.cell 6 2 true, .t 7], (.seq (.region f78.r0) (.seq (.seq (.region f78.r1) (.cond (.t 13) (.seq (.region f78.r2) .ret) .skip)) (.seq (.region f78.r3) .ret)))⟩
def f81.r0 : List IOper := [
 oz 4 (.mv oD)]
def f81.r1 : List IOper := [
 om 5 0,
 om 6 1,
 oz 7 (.call 139 [(.t 5), (.t 6)]),
 oz 8 (.bin .geq (.t 7) oA),
 om 4 8]
def f81 : IFn := ⟨2, 9, [.t 4], (.seq (.region f81.r0) (.seq (.region f81.r1) .ret))⟩
def f82.r0 : List IOper := [
 oz 4 (.mv oD)]
def f82.r1 : List IOper := [
 om 5 0,
 om 6 1,
 oz 7 (.call 140 [(.t 5), (.t 6)]),
 oz 8 (.bin .geq (.t 7) oA),
 om 4 8]
def f82 : IFn := ⟨2, 9, [.t 4], (.seq (.region f82.r0) (.seq (.region f82.r1) .ret))⟩
def f83.r0 : List IOper := [
 oz 3 (.mv oD)]
def f83.r1 : List IOper := [
 om 4 0,
 oL 5 1 false 1,
 oz 6 (.call 81 [(.t 4), (.t 5)]),
 om 3 6]
def f83 : IFn := ⟨2, 7, [.t 3], (.seq (.region f83.r0) (.seq (.region f83.r1) .ret))⟩
def f84.r0 : List IOper := [
 oz 2 (.mv (.c (.nils)))]
def f84.r1 : List IOper := [
 om 3 0,
 oz 4 (.eq false .slice (.t 3) (.c (.nils)))]
def f84.r2 : List IOper := [
 oz 2 (.mv (.c (.nils)))]
def f84.r3 : List IOper := [
 oz 5 (.mkSlice 1 0 [] []),
 om 6 0,
 oz 7 (.append 1 8 (.t 5) (.t 6)),
 om 2 7]
def f84 : IFn := ⟨1, 8, [.t 2], (.seq (.region f84.r0) (.seq (.seq (.region f84.r1) (.cond (.t 4) (.seq (.region f84.r2) .ret) .skip)) (.seq (.region f84.r3) .ret)))⟩
def f85.r0 : List IOper := [
 oz 4 (.mv oD)]
def f85.r1 : List IOper := [
 om 6 0,
 oN 7 6,
 om 8 1,
 oN 9 8,
 oz 10 (.bin .neq (.t 7) (.t 9))]
def f85.r2 : List IOper := [
 oz 4 (.mv oD)]
def f85.r3 : List IOper := [
 om 11 0,
 oN 12 11,
 oz 13 (.mv oA)]
def f85.r4 : List IOper := [
 oz 14 (.bin .lss (.t 13) (.t 12))]
def f85.r5 : List IOper := [
 om 15 13,
 om 5 15]
def f85.r6 : List IOper := [
 om 16 0,
 om 17 5,
 oV 18 [0, 1] (.iaddr 1 (.t 16) (.t 17)),
 oV 19 [2] (.load 1 false (.t 18)),
 om 20 1,
 om 21 5,
 oV 22 [4, 5] (.iaddr 1 (.t 20) (.t 21)),
 oV 23 [6] (.load 1 false (.t 22)),
 oV 24 [3, 7] (.bin .neq (.t 19) (.t 23))]
def f85.r7 : List IOper := [
 oz 4 (.mv oD)]
def f85.r8 : List IOper := [
 oz 25 (.bin .add (.t 13) oB),
 om 13 25]
def f85.l9 : IR := (.seq (.region f85.r4) (.seq (.cond (.t 14) .skip (.exit 0)) (.seq (.block 1 (.seq (.region f85.r5) (.seq (.draw f85.r6) (.cond (.t 24) (.seq (.region f85.r7) .ret) .skip)))) (.region f85.r8))))
def f85.r10 : List IOper := [
 oz 4 (.mv oC)]
def f85 : IFn := ⟨2, 26, [.t 4], (.seq (.region f85.r0) (.seq (.seq (.region f85.r1) (.cond (.t 10) (.seq (.region f85.r2) .ret) .skip)) (.seq (.seq (.region f85.r3) (.block 0 (.loop f85.l9))) (.seq (.region f85.r10) .ret))))⟩
def f86.r0 : List IOper := [
 oz 2 (.box 2 (.t 0)),
 oz 4 (.mv oA),
 oz 5 (.mv oA)]
def f86.r1 : List IOper := [
 oL 10 2 true 2,
 oR 11 97 10,
 oz 12 (.un .not (.t 11))]
def f86.r2 : List IOper := [
 oz 4 (.mv oA),
 oz 5 (.mv oB)]
def f86.r3 : List IOper := [
 oF 13 0 1 2,
 oL 14 1 false 13,
 om 6 14]
def f86.r4 : List IOper := [
 oz 7 (.mv oA)]
def f86.r5 : List IOper := [
 om 15 7,
 oF 16 1 1 2,
 oL 17 1 false 16,
 oN 18 17,
 oz 19 (.bin .lss (.t 15) (.t 18))]
def f86.r6 : List IOper := [
 oz 8 (.mv oA)]
def f86.r7 : List IOper := [
 om 22 8,
 om 23 1,
 oV 24 [1] (.len .slice (.t 23)),
 oV 25 [0, 2] (.bin .lss (.t 22) (.t 24)),
 oV 26 [3] (.mv (.t 25)),
⟨some 27, .mv (.t 1), some (26, true), [4]⟩,
⟨some 28, .mv (.t 8), some (26, true), [4]⟩,
⟨some 29, .iaddr 2 (.t 27) (.t 28), some (26, true), [5, 6, 4]⟩,
⟨some 30, .faddr 0 1 (.t 29), some (26, true), [7, 4]⟩,
⟨some 31, .load 1 false (.t 30), some (26, true), [8, 4]⟩,
⟨some 32, .faddr 1 1 (.t 2), some (26, true), [4]⟩,
⟨some 33, .load 1 false (.t 32), some (26, true), [10, 4]⟩,
⟨some 34, .mv (.t 7), some (26, true), [4]⟩,
⟨some 35, .iaddr 2 (.t 33) (.t 34), some (26, true), [11, 12, 4]⟩,
⟨some 36, .faddr 0 1 (.t 35), some (26, true), [13, 4]⟩,
⟨some 37, .load 1 false (.t 36), some (26, true), [14, 4]⟩,
⟨some 38, .bin .neq (.t 31) (.t 37), some (26, true), [9, 15, 4]⟩,
 oV 39 [4, 16] (.pick (.t 26) (.t 38) oD)]
def f86.r8 : List IOper := [
 om 40 8,
 oz 41 (.bin .add (.t 40) oB),
 om 8 41]
def f86.l9 : IR := (.seq (.seq (.draw f86.r7) (.cond (.t 39) .skip (.exit 2))) (.block 3 (.region f86.r8)))
def f86.r10 : List IOper := [
 om 42 8,
 om 43 1,
 oN 44 43,
 oz 45 (.bin .eql (.t 42) (.t 44))]
def f86.r11 : List IOper := [
 oz 4 (.mv oA),
 oz 5 (.mv (.c (.d (.int .i64 7))))]
def f86.r12 : List IOper := [
 om 46 1,
 om 47 8,
 oI 48 2 46 47,
 oF 49 1 1 48,
 oL 50 1 false 49,
 om 9 50]
def f86.r13 : List IOper := [
 om 51 9,
 oz 52 (.bin .lss (.t 51) (.c (.d (.int .i64 (-1000000000))))),
 om 53 52,
 oM 54 53 false 9,
 og 55 53 false (.bin .gtr (.t 54) (.c (.d (.int .i64 1000000000)))),
 oz 56 (.pick (.t 53) oC (.t 55))]
def f86.r14 : List IOper := [
 oz 4 (.mv oA),
 oz 5 (.mv (.c (.d (.int .i64 2))))]
def f86.r15 : List IOper := [
 om 57 6,
 oF 58 1 1 2,
 oL 59 1 false 58,
 om 60 7,
 oI 61 2 59 60,
 oF 62 1 1 61,
 oL 63 1 false 62,
 om 64 9,
 oz 65 (.bin .mul (.t 63) (.t 64)),
 oz 66 (.bin .add (.t 57) (.t 65)),
 om 6 66]
def f86.r16 : List IOper := [
 om 20 7,
 oz 21 (.bin .add (.t 20) oB),
 om 7 21]
def f86.l17 : IR := (.seq (.seq (.region f86.r5) (.cond (.t 19) .skip (.exit 0))) (.seq (.block 1 (.seq (.region f86.r6) (.seq (.block 2 (.loop f86.l9)) (.seq (.seq (.region f86.r10) (.cond (.t 45) (.seq (.region f86.r11) .ret) .skip)) (.seq (.region f86.r12) (.seq (.seq (.region f86.r13) (.cond (.t 56) (.seq (.region f86.r14) .ret) .skip)) (.region f86.r15))))))) (.region f86.r16)))
def f86.r18 : List IOper := [
 om 67 6,
 om 4 67,
 oz 5 (.mv oA)]
def f86 : IFn := ⟨2, 68, [.t 4, .t 5], (.seq (.region f86.r0) (.seq (.seq (.region f86.r1) (.cond (.t 12) (.seq (.region f86.r2) .ret) .skip)) (.seq (.region f86.r3) (.seq (.seq (.region f86.r4) (.block 0 (.loop f86.l17))) (.seq (.region f86.r18) .ret)))))⟩
def f89.r0 : List IOper := [
 oz 1 (.box 2 (.t 0)),
 oz 2 (.mv oD)]
def f89.r1 : List IOper := [
 oF 5 1 1 1,
 oL 6 1 false 5,
 oN 7 6,
 oz 8 (.mv oA)]
def f89.r2 : List IOper := [
 oz 9 (.bin .lss (.t 8) (.t 7))]
def f89.r3 : List IOper := [
 om 10 8,
 oI 11 2 6 8,
 oL 12 2 true 11,
 oz 4 (.alloc [.d (.str []), .d (.int .i64 0)]),
 om 3 10,
 oy (.store 2 (.t 4) (.t 12))]
def f89.r4 : List IOper := [
 oF 13 0 1 4,
 oV 14 [0] (.load 1 false (.t 13)),
 oV 15 [1] (.call 115 [(.t 14)]),
 oV 16 [2] (.un .not (.t 15)),
 oV 17 [3, 2] (.mv (.t 16)),
⟨some 18, .faddr 1 1 (.t 4), some (17, false), [4]⟩,
⟨some 19, .load 1 false (.t 18), some (17, false), [5, 4]⟩,
⟨some 20, .bin .eql (.t 19) oA, some (17, false), [6, 4]⟩,
 oV 21 [4, 7] (.pick (.t 17) oC (.t 20)),
 oV 22 [8, 4] (.mv (.t 21)),
⟨some 23, .faddr 1 1 (.t 4), some (22, false), [9]⟩,
⟨some 24, .load 1 false (.t 23), some (22, false), [10, 9]⟩,
⟨some 25, .call 142 [(.t 24)], some (22, false), [11, 9, 9]⟩,
⟨some 26, .un .not (.t 25), some (22, false), [12, 9]⟩,
 oV 27 [9, 13] (.pick (.t 22) oC (.t 26)),
 oV 28 [14, 12] (.mv (.t 27)),
⟨some 29, .mv (.t 3), some (28, false), [15]⟩,
⟨some 30, .bin .gtr (.t 29) oA, some (28, false), [16, 15]⟩,
⟨some 31, .mv (.t 30), some (28, false), [17, 15, 15]⟩,
⟨some 32, .faddr 1 1 (.t 1), some (31, true), [18]⟩,
⟨some 33, .load 1 false (.t 32), some (31, true), [19, 18]⟩,
⟨some 34, .mv (.t 3), some (31, true), [18]⟩,
⟨some 35, .bin .sub (.t 34) oB, some (31, true), [21, 18]⟩,
⟨some 36, .iaddr 2 (.t 33) (.t 35), some (31, true), [20, 22, 18]⟩,
⟨some 37, .faddr 0 1 (.t 36), some (31, true), [23, 18]⟩,
⟨some 38, .load 1 false (.t 37), some (31, true), [24, 18]⟩,
⟨some 39, .faddr 0 1 (.t 4), some (31, true), [18]⟩,
⟨some 40, .load 1 false (.t 39), some (31, true), [26, 18]⟩,
⟨some 41, .bin .geq (.t 38) (.t 40), some (31, true), [25, 27, 18]⟩,
⟨some 42, .pick (.t 31) (.t 41) oD, some (28, false), [18, 28, 15]⟩,
 oV 43 [15, 29] (.pick (.t 28) oC (.t 42))]
def f89.r5 : List IOper := [
 oz 2 (.mv oD)]
def f89.r6 : List IOper := [
 oz 44 (.bin .add (.t 8) oB),
 om 8 44]
def f89.l7 : IR := (.seq (.region f89.r2) (.seq (.cond (.t 9) .skip (.exit 0)) (.seq (.block 1 (.seq (.region f89.r3) (.seq (.draw f89.r4) (.cond (.t 43) (.seq (.region f89.r5) .ret) .skip)))) (.region f89.r6))))
def f89.r8 : List IOper := [
 oF 45 0 1 1,
 oL 46 1 false 45,
 oR 47 142 46,
 om 48 47,
 oH 49 48 true 1 1 1,
 oG 50 48 true 1 false 49,
 og 51 48 true (.len .slice (.t 50)),
 og 52 48 true (.bin .leq (.t 51) (.c (.d (.int .i64 12)))),
 oz 53 (.pick (.t 48) (.t 52) oD),
 om 2 53]
def f89 : IFn := ⟨1, 54, [.t 2], (.seq (.region f89.r0) (.seq (.seq (.region f89.r1) (.block 0 (.loop f89.l7))) (.seq (.region f89.r8) .ret)))⟩
def f97.r0 : List IOper := [
 oz 1 (.box 2 (.t 0)),
 oz 2 (.mv oD)]
def f97.r1 : List IOper := [
 oF 5 0 1 1,
 oL 6 1 false 5,
 oR 7 153 6,
 oz 8 (.un .not (.t 7)),
 om 9 8,
 oH 10 9 false 1 1 1,
 oG 11 9 false 1 false 10,
 og 12 9 false (.len .slice (.t 11)),
 og 13 9 false (.bin .gtr (.t 12) (.c (.d (.int .i64 12)))),
 oz 14 (.pick (.t 9) oC (.t 13))]
def f97.r2 : List IOper := [
 oz 2 (.mv oD)]
def f97.r3 : List IOper := [
 oz 3 (.mv oA)]
def f97.r4 : List IOper := [
 om 15 3,
 oF 16 1 1 1,
 oL 17 1 false 16,
 oN 18 17,
 oz 19 (.bin .lss (.t 15) (.t 18))]
def f97.r5 : List IOper := [
 oF 22 1 1 1,
 oL 23 1 false 22,
 om 24 3,
 oI 25 2 23 24,
 oL 26 2 true 25,
 oz 4 (.alloc [.d (.str []), .d (.int .i64 0)]),
 oy (.store 2 (.t 4) (.t 26))]
def f97.r6 : List IOper := [
 oF 27 0 1 4,
 oV 28 [0] (.load 1 false (.t 27)),
 oV 29 [1] (.call 120 [(.t 28)]),
 oV 30 [2] (.un .not (.t 29)),
 oV 31 [3, 2] (.mv (.t 30)),
⟨some 32, .faddr 1 1 (.t 4), some (31, false), [4]⟩,
⟨some 33, .load 1 false (.t 32), some (31, false), [5, 4]⟩,
⟨some 34, .bin .eql (.t 33) oA, some (31, false), [6, 4]⟩,
 oV 35 [4, 7] (.pick (.t 31) oC (.t 34)),
 oV 36 [8, 4] (.mv (.t 35)),
⟨some 37, .faddr 1 1 (.t 4), some (36, false), [9]⟩,
⟨some 38, .load 1 false (.t 37), some (36, false), [10, 9]⟩,
⟨some 39, .call 153 [(.t 38)], some (36, false), [11, 9, 9]⟩,
⟨some 40, .un .not (.t 39), some (36, false), [12, 9]⟩,
 oV 41 [9, 13] (.pick (.t 36) oC (.t 40)),
 oV 42 [14, 12] (.mv (.t 41)),
⟨some 43, .mv (.t 3), some (42, false), [15]⟩,
⟨some 44, .bin .gtr (.t 43) oA, some (42, false), [16, 15]⟩,
⟨some 45, .mv (.t 44), some (42, false), [17, 15, 15]⟩,
⟨some 46, .faddr 1 1 (.t 1), some (45, true), [18]⟩,
⟨some 47, .load 1 false (.t 46), some (45, true), [19, 18]⟩,
⟨some 48, .mv (.t 3), some (45, true), [18]⟩,
⟨some 49, .bin .sub (.t 48) oB, some (45, true), [21, 18]⟩,
⟨some 50, .iaddr 2 (.t 47) (.t 49), some (45, true), [20, 22, 18]⟩,
⟨some 51, .faddr 0 1 (.t 50), some (45, true), [23, 18]⟩,
⟨some 52, .load 1 false (.t 51), some (45, true), [24, 18]⟩,
⟨some 53, .faddr 0 1 (.t 4), some (45, true), [18]⟩,
⟨some 54, .load 1 false (.t 53), some (45, true), [26, 18]⟩,
⟨some 55, .bin .geq (.t 52) (.t 54), some (45, true), [25, 27, 18]⟩,
⟨some 56, .pick (.t 45) (.t 55) oD, some (42, false), [18, 28, 15]⟩,
 oV 57 [15, 29] (.pick (.t 42) oC (.t 56))]
def f97.r7 : List IOper := [
 oz 2 (.mv oD)]
def f97.r8 : List IOper := [
 om 20 3,
 oz 21 (.bin .add (.t 20) oB),
 om 3 21]
def f97.l9 : IR := (.seq (.seq (.region f97.r4) (.cond (.t 19) .skip (.exit 0))) (.seq (.block 1 (.seq (.region f97.r5) (.seq (.draw f97.r6) (.cond (.t 57) (.seq (.region f97.r7) .ret) .skip)))) (.region f97.r8)))
def f97.r10 : List IOper := [
 oz 2 (.mv oC)]
def f97 : IFn := ⟨1, 58, [.t 2], (.seq (.region f97.r0) (.seq (.seq (.region f97.r1) (.cond (.t 14) (.seq (.region f97.r2) .ret) .skip)) (.seq (.seq (.region f97.r3) (.block 0 (.loop f97.l9))) (.seq (.region f97.r10) .ret))))⟩
def f104.r0 : List IOper := [
⟨some 3, .mv (.t 0), none, []⟩,
⟨some 4, .len .slice (.t 3), none, []⟩,
⟨some 2, .mv (.t 4), none, []⟩]
def f104.r1 : List IOper := [
⟨some 5, .mv (.t 0), none, []⟩,
⟨some 6, .mv (.t 2), none, []⟩,
⟨some 7, .mv (.t 2), none, []⟩,
⟨some 8, .conv .u64 (.t 7), none, []⟩,
⟨some 9, .call 158 [(.t 8)], none, []⟩,
⟨some 10, .call 157 [(.t 5), (.c (.d (.int .i64 0))), (.t 6), (.t 9)], none, []⟩]
def f104 : IFn := ⟨1, 11, [], (.seq (.region f104.r0) (.region f104.r1))⟩
def f110.r0 : List IOper := [
 oz 2 (.mv (.c (.nils)))]
def f110.r1 : List IOper := [
 oz 3 (.mv (.c (.nils)))]
def f110.r2 : List IOper := [
 om 6 0,
 oN 7 6,
 oz 8 (.mv oA)]
def f110.r3 : List IOper := [
 oz 9 (.bin .lss (.t 8) (.t 7))]
def f110.r4 : List IOper := [
 oI 10 2 6 8,
 oL 11 2 true 10,
 oz 5 (.alloc [.d (.int .i64 0), .nils]),
 oy (.store 2 (.t 5) (.t 11))]
def f110.r5 : List IOper := [
 om 12 3,
 oF 13 0 1 5,
 oV 14 [1] (.load 1 false (.t 13)),
 oF 15 1 1 5,
 oV 16 [3] (.load 1 false (.t 15)),
 oV 17 [4] (.call 170 [(.t 16)]),
 oV 18 [2, 5] (.build [.d (.int .i64 0), .nils] [(0, 1, (.t 14)), (1, 1, (.t 17))]),
 oV 19 [6] (.mkSlice 2 1 [.d (.int .i64 0), .nils] [(0, 2, (.t 18))]),
 oV 20 [0, 7, 5] (.append 2 32 (.t 12) (.t 19)),
 oV 3 [8, 8, 0, 1, 2, 3, 4, 5, 6, 7, 8] (.mv (.t 20))]
def f110.r6 : List IOper := [
 oz 21 (.bin .add (.t 8) oB),
 om 8 21]
def f110.l7 : IR := (.seq (.region f110.r3) (.seq (.cond (.t 9) .skip (.exit 0)) (.seq (.block 1 (.seq (.region f110.r4) (.draw f110.r5))) (.region f110.r6))))
def f110.r8 : List IOper := [
 om 22 3,
 om 2 22]
def f110 : IFn := ⟨1, 23, [.t 2], (.seq (.region f110.r0) (.seq (.region f110.r1) (.seq (.seq (.region f110.r2) (.block 0 (.loop f110.l7))) (.seq (.region f110.r8) .ret))))⟩
def f111.r0 : List IOper := [
 oz 2 (.mv oD)]
def f111.r1 : List IOper := [
 om 3 0,
 oz 4 (.len .str (.t 3)),
 oz 5 (.bin .lss (.t 4) oB),
 om 6 5,
 oM 7 6 false 0,
 og 8 6 false (.len .str (.t 7)),
 og 9 6 false (.bin .gtr (.t 8) (.c (.d (.int .i64 30)))),
 oz 10 (.pick (.t 6) oC (.t 9)),
 om 11 10,
 oM 12 11 false 0,
 og 13 11 false (.idxS (.t 12) oA),
 og 14 11 false (.bin .lss (.t 13) (.c (.d (.int .u8 65)))),
 oz 15 (.pick (.t 11) oC (.t 14)),
 om 16 15,
 oM 17 16 false 0,
 og 18 16 false (.idxS (.t 17) oA),
 og 19 16 false (.bin .gtr (.t 18) (.c (.d (.int .u8 90)))),
 oz 20 (.pick (.t 16) oC (.t 19))]
def f111.r2 : List IOper := [
 oz 2 (.mv oD)]
def f111.r3 : List IOper := [
 om 21 0,
 oz 22 (.sslice (.t 21) (some oB) none),
 oz 23 (.call 171 [(.t 22), (.c (.d (.str [48, 49, 50, 51, 52, 53, 54, 55, 56, 57])))]),
 oz 24 (.bin .eql (.t 23) oE),
 om 2 24]
def f111 : IFn := ⟨1, 25, [.t 2], (.seq (.region f111.r0) (.seq (.seq (.region f111.r1) (.cond (.t 20) (.seq (.region f111.r2) .ret) .skip)) (.seq (.region f111.r3) .ret)))⟩
def f112.r0 : List IOper := [
 oz 4 (.mv oA)]
def f112.r1 : List IOper := [
 om 6 0,
 oN 7 6,
 oz 8 (.mv oA)]
def f112.r2 : List IOper := [
 oz 9 (.bin .lss (.t 8) (.t 7))]
def f112.r3 : List IOper := [
 om 10 8,
 om 5 10]
def f112.r4 : List IOper := [
 om 11 1,
 om 12 0,
 om 13 5,
 oI 14 3 12 13,
 oL 15 3 true 14,
 oz 16 (.callv (.t 11) [(.t 15)])]
def f112.r5 : List IOper := [
 om 17 5,
 om 4 17]
def f112.r6 : List IOper := [
 oz 18 (.bin .add (.t 8) oB),
 om 8 18]
def f112.l7 : IR := (.seq (.region f112.r2) (.seq (.cond (.t 9) .skip (.exit 0)) (.seq (.block 1 (.seq (.region f112.r3) (.seq (.region f112.r4) (.cond (.t 16) (.seq (.region f112.r5) .ret) .skip)))) (.region f112.r6))))
def f112.r8 : List IOper := [
 oz 4 (.mv (.c (.d (.int .i64 (-1)))))]
def f112 : IFn := ⟨2, 19, [.t 4], (.seq (.region f112.r0) (.seq (.seq (.region f112.r1) (.block 0 (.loop f112.l7))) (.seq (.region f112.r8) .ret)))⟩
def f114.r0 : List IOper := [
 oz 4 (.mv oA)]
def f114.r1 : List IOper := [
 om 6 0,
 oN 7 6,
 oz 8 (.mv oA)]
def f114.r2 : List IOper := [
 oz 9 (.bin .lss (.t 8) (.t 7))]
def f114.r3 : List IOper := [
 om 10 8,
 om 5 10]
def f114.r4 : List IOper := [
 om 11 1,
 om 12 0,
 om 13 5,
 oI 14 1 12 13,
 oL 15 1 false 14,
 oz 16 (.eq false .bool (.t 11) (.t 15))]
def f114.r5 : List IOper := [
 om 17 5,
 om 4 17]
def f114.r6 : List IOper := [
 oz 18 (.bin .add (.t 8) oB),
 om 8 18]
def f114.l7 : IR := (.seq (.region f114.r2) (.seq (.cond (.t 9) .skip (.exit 0)) (.seq (.block 1 (.seq (.region f114.r3) (.seq (.region f114.r4) (.cond (.t 16) (.seq (.region f114.r5) .ret) .skip)))) (.region f114.r6))))
def f114.r8 : List IOper := [
 oz 4 (.mv (.c (.d (.int .i64 (-1)))))]
def f114 : IFn := ⟨2, 19, [.t 4], (.seq (.region f114.r0) (.seq (.seq (.region f114.r1) (.block 0 (.loop f114.l7))) (.seq (.region f114.r8) .ret)))⟩
def f115.r0 : List IOper := [
 oz 2 (.mv oD)]
def f115.r1 : List IOper := [
 om 7 0,
 oz 8 (.call 172 [(.t 7), (.c (.d (.str [95])))])]
def f115.r2 : List IOper := [
 om 10 0,
 oz 11 (.sslice (.t 10) (some oB) none),
 oR 12 173 11,
 om 9 12,
 oX 13 9 0,
 oX 14 9 1,
 om 3 13,
 om 4 14]
def f115.r3 : List IOper := [
 om 15 4,
 oV 16 [0] (.eq false .iface (.t 15) (.c (.nili))),
 oV 17 [1] (.mv (.t 16)),
⟨some 18, .mv (.t 3), some (17, true), [2]⟩,
⟨some 19, .bin .gtr (.t 18) oA, some (17, true), [3, 2]⟩,
 oV 20 [2, 4] (.pick (.t 17) (.t 19) oD),
 oV 21 [5, 2] (.mv (.t 20)),
⟨some 22, .mv (.t 0), some (21, true), [6]⟩,
⟨some 23, .len .str (.t 22), some (21, true), [7, 6]⟩,
⟨some 24, .bin .leq (.t 23) (.c (.d (.int .i64 10))), some (21, true), [8, 6]⟩,
 oV 25 [6, 9] (.pick (.t 21) (.t 24) oD),
 oV 26 [10, 6] (.mv (.t 25)),
⟨some 27, .mv (.t 3), some (26, true), [11]⟩,
⟨some 28, .call 107 [(.t 27)], some (26, true), [12, 11, 11]⟩,
⟨some 29, .mv (.t 0), some (26, true), [11]⟩,
⟨some 30, .sslice (.t 29) (some oB) none, some (26, true), [14, 11]⟩,
⟨some 31, .bin .eql (.t 28) (.t 30), some (26, true), [13, 15, 11]⟩,
 oV 32 [11, 16] (.pick (.t 26) (.t 31) oD),
 oV 2 [17, 13, 0, 1, 2, 3, 4, 5, 6, 7, 8, 9, 10, 11, 12, 13, 14, 15, 16, 17] (.mv (.t 32))]
def f115.r4 : List IOper := [
 om 33 0,
 oz 34 (.strToBytes (.t 33)),
 oN 35 34,
 oz 36 (.mv oA)]
def f115.r5 : List IOper := [
 oz 37 (.bin .lss (.t 36) (.t 35))]
def f115.r6 : List IOper := [
 om 38 36,
 oI 39 1 34 36,
 oL 40 1 false 39,
 om 5 38,
 om 6 40]
def f115.r7 : List IOper := [
 om 41 6,
 oz 42 (.bin .lss (.t 41) (.c (.d (.int .u8 97)))),
 om 43 42,
 oM 44 43 false 6,
 og 45 43 false (.bin .gtr (.t 44) (.c (.d (.int .u8 122)))),
 oz 46 (.pick (.t 43) oC (.t 45)),
 om 47 46,
 oM 48 47 true 5,
 og 49 47 true (.bin .eql (.t 48) oA),
 oM 50 47 true 49,
 oM 51 50 false 6,
 og 52 50 false (.bin .lss (.t 51) (.c (.d (.int .u8 48)))),
 og 53 47 true (.pick (.t 50) oC (.t 52)),
 oM 54 47 true 53,
 oM 55 54 false 6,
 og 56 54 false (.bin .gtr (.t 55) (.c (.d (.int .u8 57)))),
 og 57 47 true (.pick (.t 54) oC (.t 56)),
 oz 58 (.pick (.t 47) (.t 57) oD)]
def f115.r8 : List IOper := [
 oz 2 (.mv oD)]
def f115.r9 : List IOper := [
 oz 59 (.bin .add (.t 36) oB),
 om 36 59]
def f115.l10 : IR := (.seq (.region f115.r5) (.seq (.cond (.t 37) .skip (.exit 0)) (.seq (.block 1 (.seq (.region f115.r6) (.seq (.region f115.r7) (.cond (.t 58) (.seq (.region f115.r8) .ret) .skip)))) (.region f115.r9))))
def f115.r11 : List IOper := [
 om 60 0,
 oz 61 (.bin .neq (.t 60) oE),
 om 62 61,
 oM 63 62 true 0,
 og 64 62 true (.len .str (.t 63)),
 og 65 62 true (.bin .leq (.t 64) (.c (.d (.int .i64 30)))),
 oz 66 (.pick (.t 62) (.t 65) oD),
 om 2 66]
def f115 : IFn := ⟨1, 67, [.t 2], (.seq (.region f115.r0) (.seq (.seq (.region f115.r1) (.cond (.t 8) (.seq (.region f115.r2) (.seq (.draw f115.r3) .ret)) .skip)) (.seq (.seq (.region f115.r4) (.block 0 (.loop f115.l10))) (.seq (.region f115.r11) .ret))))⟩
def f116.r0 : List IOper := [
 oz 4 (.mv oD)]
def f116.r1 : List IOper := [
 om 5 0,
 om 6 1,
 oz 7 (.call 174 [(.t 5), (.t 6)]),
 oz 8 (.bin .geq (.t 7) oA),
 om 4 8]
def f116 : IFn := ⟨2, 9, [.t 4], (.seq (.region f116.r0) (.seq (.region f116.r1) .ret))⟩
def f117.r0 : List IOper := [
 oz 1 (.box 2 (.t 0)),
 oz 2 (.mv oD)]
def f117.r1 : List IOper := [
 oL 3 2 true 1,
 oR 4 89 3,
 oz 5 (.un .not (.t 4)),
 om 2 5]
def f117 : IFn := ⟨1, 6, [.t 2], (.seq (.region f117.r0) (.seq (.region f117.r1) .ret))⟩
def f118.r0 : List IOper := [
⟨some 4, .mv (.c (.nils)), none, []⟩]
def f118.r1 : List IOper := [
⟨some 5, .mv (.t 1), none, []⟩,
⟨some 6, .bin .lss (.t 5) (.c (.d (.int .i64 0))), none, []⟩]
def f118.r2 : List IOper := [
⟨some 7, .mkiface 9 (.c (.d (.str [99, 97, 110, 110, 111, 116, 32, 98, 101, 32, 110, 101, 103, 97, 116, 105, 118, 101]))), none, []⟩,
⟨none, .bad, none, []⟩]
def f118.r3 : List IOper := [
⟨some 8, .mv (.t 1), none, []⟩,
⟨some 9, .mv (.t 0), none, []⟩,
⟨some 10, .cap (.t 9), none, []⟩,
⟨some 11, .mv (.t 0), none, []⟩,
⟨some 12, .len .slice (.t 11), none, []⟩,
⟨some 13, .bin .sub (.t 10) (.t 12), none, []⟩,
⟨some 14, .bin .sub (.t 8) (.t 13), none, []⟩,
⟨some 1, .mv (.t 14), none, []⟩]
def f118.r4 : List IOper := [
⟨some 15, .mv (.t 1), none, []⟩,
⟨some 16, .bin .gtr (.t 15) (.c (.d (.int .i64 0))), none, []⟩]
def f118.r5 : List IOper := [
⟨some 17, .mv (.t 0), none, []⟩,
⟨some 18, .mv (.t 0), none, []⟩,
⟨some 19, .cap (.t 18), none, []⟩,
⟨some 20, .lslice 3 (.t 17) none (some (.t 19)), none, []⟩,
⟨some 21, .mv (.t 1), none, []⟩,
⟨some 22, .appendN 3 56 [.d (.str []), .d (.str []), .nils] (.t 20) (.t 21), none, []⟩,
⟨some 23, .mv (.t 0), none, []⟩,
⟨some 24, .len .slice (.t 23), none, []⟩,
⟨some 25, .lslice 3 (.t 22) none (some (.t 24)), none, []⟩,
⟨some 0, .mv (.t 25), none, []⟩]
def f118.r6 : List IOper := [
⟨some 26, .mv (.t 0), none, []⟩,
⟨some 4, .mv (.t 26), none, []⟩]
def f118 : IFn := ⟨2, 27, [.t 4], (.seq (.region f118.r0) (.seq (.seq (.region f118.r1) (.cond (.t 6) (.region f118.r2) .skip)) (.seq (.seq (.region f118.r3) (.seq (.region f118.r4) (.cond (.t 16) (.region f118.r5) .skip))) (.seq (.region f118.r6) .ret))))⟩
def f119.r0 : List IOper := [
 oz 2 (.box 2 (.t 0)),
 oz 3 (.box 2 (.t 1)),
 oz 4 (.alloc oS),
 oz 5 (.mv oA)]
def f119.r1 : List IOper := [
 oL 7 2 true 2,
 oR 8 59 7,
 oz 9 (.un .not (.t 8)),
 om 10 9,
 oG 11 10 false 2 true 3,
 og 12 10 false (.call 59 [(.t 11)]),
 og 13 10 false (.un .not (.t 12)),
 oz 14 (.pick (.t 10) oC (.t 13)),
 om 6 14]
def f119.r2 : List IOper := [
 oz 15 (.build oS []),
 oy (.store 2 (.t 4) (.t 15)),
 oz 5 (.mv oB)]
def f119.r3 : List IOper := [
 oF 17 0 1 3,
 oL 18 1 false 17,
 oz 19 (.bin .neq (.t 18) oE),
 om 16 19]
def f119.r4 : List IOper := [
 oz 20 (.build oS []),
 oy (.store 2 (.t 4) (.t 20)),
 oz 5 (.mv (.c (.d (.int .i64 13))))]
def f119.r5 : List IOper := [
 oF 21 0 1 2,
 oV 22 [0] (.load 1 false (.t 21)),
 oF 23 1 1 2,
 oV 24 [2] (.load 1 false (.t 23)),
 oF 25 1 1 3,
 oV 26 [4] (.load 1 false (.t 25)),
 oV 27 [3, 5] (.mkSlice 1 2 [.nils, .nils] [(0, 1, (.t 24)), (1, 1, (.t 26))]),
 oV 28 [6] (.call 176 [(.t 27)]),
 oV 29 [1, 7, 7] (.call 175 [(.t 22), (.t 28)]),
 oV 30 [8] (.ext (.t 29) 0),
 oV 31 [8] (.ext (.t 29) 1),
⟨none, .store 2 (.t 4) (.t 30), none, [9, 8, 0, 1, 2, 3, 4, 5, 6, 7, 8, 9, 10]⟩,
 oV 5 [10, 11, 0, 1, 2, 3, 4, 5, 6, 7, 8, 9, 10, 11] (.mv (.t 31))]
def f119 : IFn := ⟨2, 32, [.cell 4 2 true, .t 5], (.seq (.region f119.r0) (.seq (.block 0 (.seq (.region f119.r1) (.cond (.t 6) (.seq (.region f119.r2) .ret) (.seq (.region f119.r3) (.cond (.t 16) (.seq (.region f119.r4) .ret) .skip))))) (.seq (.draw f119.r5) .ret)))⟩
def f120.r0 : List IOper := [
 oz 2 (.mv oD)]
def f120.r1 : List IOper := [
 om 5 0,
 oz 6 (.len .str (.t 5)),
 oz 7 (.bin .eql (.t 6) oA),
 om 8 7,
 oM 9 8 false 0,
 og 10 8 false (.len .str (.t 9)),
 og 11 8 false (.bin .gtr (.t 10) (.c (.d (.int .i64 30)))),
 oz 12 (.pick (.t 8) oC (.t 11))]
def f120.r2 : List IOper := [
 oz 2 (.mv oD)]
def f120.r3 : List IOper := [
 om 13 0,
 oz 14 (.idxS (.t 13) oA),
 oz 15 (.bin .eql (.t 14) (.c (.d (.int .u8 95))))]
def f120.r4 : List IOper := [
 om 16 0,
 oz 17 (.len .str (.t 16)),
 oz 18 (.bin .lss (.t 17) (.c (.d (.int .i64 2)))),
 om 19 18,
 oM 20 19 false 0,
 og 21 19 false (.len .str (.t 20)),
 og 22 19 false (.bin .gtr (.t 21) (.c (.d (.int .i64 10)))),
 oz 23 (.pick (.t 19) oC (.t 22)),
 om 24 23,
 oM 25 24 false 0,
 og 26 24 false (.idxS (.t 25) oB),
 og 27 24 false (.bin .eql (.t 26) (.c (.d (.int .u8 48)))),
 oz 28 (.pick (.t 24) oC (.t 27))]
def f120.r5 : List IOper := [
 oz 2 (.mv oD)]
def f120.r6 : List IOper := [
 oz 3 (.mv oB)]
def f120.r7 : List IOper := [
 om 29 3,
 om 30 0,
 oz 31 (.len .str (.t 30)),
 oz 32 (.bin .lss (.t 29) (.t 31))]
def f120.r8 : List IOper := [
 om 35 0,
 om 36 3,
 oz 37 (.idxS (.t 35) (.t 36)),
 oR 38 177 37,
 oz 39 (.un .not (.t 38))]
def f120.r9 : List IOper := [
 oz 2 (.mv oD)]
def f120.r10 : List IOper := [
 om 33 3,
 oz 34 (.bin .add (.t 33) oB),
 om 3 34]
def f120.l11 : IR := (.seq (.seq (.region f120.r7) (.cond (.t 32) .skip (.exit 0))) (.seq (.block 1 (.seq (.region f120.r8) (.cond (.t 39) (.seq (.region f120.r9) .ret) .skip))) (.region f120.r10)))
def f120.r12 : List IOper := [
 oz 2 (.mv oC)]
def f120.r13 : List IOper := [
 oz 4 (.mv oA)]
def f120.r14 : List IOper := [
 om 40 4,
 om 41 0,
 oz 42 (.len .str (.t 41)),
 oz 43 (.bin .lss (.t 40) (.t 42))]
def f120.r15 : List IOper := [
 om 46 0,
 om 47 4,
 oz 48 (.idxS (.t 46) (.t 47)),
 oR 49 178 48,
 oz 50 (.un .not (.t 49)),
 om 51 50,
 oM 52 51 true 4,
 og 53 51 true (.bin .eql (.t 52) oA),
 oM 54 51 true 53,
 oM 55 54 false 0,
 oM 56 54 false 4,
 og 57 54 false (.idxS (.t 55) (.t 56)),
 og 58 54 false (.call 177 [(.t 57)]),
 og 59 54 false (.un .not (.t 58)),
 og 60 51 true (.pick (.t 54) oC (.t 59)),
 oz 61 (.pick (.t 51) (.t 60) oD)]
def f120.r16 : List IOper := [
 oz 2 (.mv oD)]
def f120.r17 : List IOper := [
 om 44 4,
 oz 45 (.bin .add (.t 44) oB),
 om 4 45]
def f120.l18 : IR := (.seq (.seq (.region f120.r14) (.cond (.t 43) .skip (.exit 2))) (.seq (.block 3 (.seq (.region f120.r15) (.cond (.t 61) (.seq (.region f120.r16) .ret) .skip))) (.region f120.r17)))
def f120.r19 : List IOper := [
 oz 2 (.mv oC)]
def f120 : IFn := ⟨1, 62, [.t 2], (.seq (.region f120.r0) (.seq (.seq (.region f120.r1) (.cond (.t 12) (.seq (.region f120.r2) .ret) .skip)) (.seq (.seq (.region f120.r3) (.cond (.t 15) (.seq (.seq (.region f120.r4) (.cond (.t 28) (.seq (.region f120.r5) .ret) .skip)) (.seq (.seq (.region f120.r6) (.block 0 (.loop f120.l11))) (.seq (.region f120.r12) .ret))) .skip)) (.seq (.seq (.region f120.r13) (.block 2 (.loop f120.l18))) (.seq (.region f120.r19) .ret)))))⟩
def f121.r0 : List IOper := [
 oz 2 (.box 2 (.t 0)),
 oz 3 (.box 2 (.t 1)),
 oz 4 (.alloc oS),
 oz 5 (.mv oA)]
def f121.r1 : List IOper := [
 oL 7 2 true 2,
 oR 8 63 7,
 oz 9 (.un .not (.t 8)),
 om 10 9,
 oG 11 10 false 2 true 3,
 og 12 10 false (.call 63 [(.t 11)]),
 og 13 10 false (.un .not (.t 12)),
 oz 14 (.pick (.t 10) oC (.t 13)),
 om 6 14]
def f121.r2 : List IOper := [
 oz 15 (.build oS []),
 oy (.store 2 (.t 4) (.t 15)),
 oz 5 (.mv oB)]
def f121.r3 : List IOper := [
 oF 17 0 1 3,
 oL 18 1 false 17,
 oz 19 (.bin .neq (.t 18) oE),
 om 16 19]
def f121.r4 : List IOper := [
 oz 20 (.build oS []),
 oy (.store 2 (.t 4) (.t 20)),
 oz 5 (.mv (.c (.d (.int .i64 13))))]
def f121.r5 : List IOper := [
 oF 21 0 1 2,
 oL 22 1 false 21,
 oF 23 1 1 2,
 oL 24 1 false 23,
 oF 25 1 1 3,
 oL 26 1 false 25,
 oz 27 (.call 78 [(.t 22), (.t 24), (.t 26)]),
 oX 28 27 0,
 oX 29 27 1,
 oy (.store 2 (.t 4) (.t 28)),
 om 5 29]
def f121 : IFn := ⟨2, 30, [.cell 4 2 true, .t 5], (.seq (.region f121.r0) (.seq (.block 0 (.seq (.region f121.r1) (.cond (.t 6) (.seq (.region f121.r2) .ret) (.seq (.region f121.r3) (.cond (.t 16) (.seq (.region f121.r4) .ret) .skip))))) (.seq (.region f121.r5) .ret)))⟩
def f122.r0 : List IOper := [
 oz 4 (.mv oA)]
def f122.r1 : List IOper := [
 om 6 0,
 oN 7 6,
 oz 8 (.mv oA)]
def f122.r2 : List IOper := [
 oz 9 (.bin .lss (.t 8) (.t 7))]
def f122.r3 : List IOper := [
 om 10 8,
 om 5 10]
def f122.r4 : List IOper := [
 om 11 1,
 om 12 0,
 om 13 5,
 oI 14 6 12 13,
 oL 15 6 true 14,
 oz 16 (.callv (.t 11) [(.t 15)])]
def f122.r5 : List IOper := [
 om 17 5,
 om 4 17]
def f122.r6 : List IOper := [
 oz 18 (.bin .add (.t 8) oB),
 om 8 18]
def f122.l7 : IR := (.seq (.region f122.r2) (.seq (.cond (.t 9) .skip (.exit 0)) (.seq (.block 1 (.seq (.region f122.r3) (.seq (.region f122.r4) (.cond (.t 16) (.seq (.region f122.r5) .ret) .skip)))) (.region f122.r6))))
def f122.r8 : List IOper := [
 oz 4 (.mv (.c (.d (.int .i64 (-1)))))]
def f122 : IFn := ⟨2, 19, [.t 4], (.seq (.region f122.r0) (.seq (.seq (.region f122.r1) (.block 0 (.loop f122.l7))) (.seq (.region f122.r8) .ret)))⟩
def f123.r0 : List IOper := [
 oz 2 (.box 2 (.t 0)),
 oz 3 (.box 2 (.t 1)),
 oz 4 (.mv oD)]
def f123.r1 : List IOper := [
 oF 5 0 1 2,
 oL 6 1 false 5,
 oF 7 0 1 3,
 oL 8 1 false 7,
 oz 9 (.bin .eql (.t 6) (.t 8)),
 om 10 9,
 oH 11 10 true 1 1 2,
 oG 12 10 true 1 false 11,
 oH 13 10 true 1 1 3,
 oG 14 10 true 1 false 13,
 og 15 10 true (.call 179 [(.t 12), (.t 14), (.f 180)]),
 oz 16 (.pick (.t 10) (.t 15) oD),
 om 4 16]
def f123 : IFn := ⟨2, 17, [.t 4], (.seq (.region f123.r0) (.seq (.region f123.r1) .ret))⟩
def f139.r0 : List IOper := [
 oz 4 (.mv oA)]
def f139.r1 : List IOper := [
 om 6 0,
 oN 7 6,
 oz 8 (.mv oA)]
def f139.r2 : List IOper := [
 oz 9 (.bin .lss (.t 8) (.t 7))]
def f139.r3 : List IOper := [
 om 10 8,
 om 5 10]
def f139.r4 : List IOper := [
 om 11 1,
 om 12 0,
 om 13 5,
 oI 14 1 12 13,
 oL 15 1 false 14,
 oz 16 (.callv (.t 11) [(.t 15)])]
def f139.r5 : List IOper := [
 om 17 5,
 om 4 17]
def f139.r6 : List IOper := [
 oz 18 (.bin .add (.t 8) oB),
 om 8 18]
def f139.l7 : IR := (.seq (.region f139.r2) (.seq (.cond (.t 9) .skip (.exit 0)) (.seq (.block 1 (.seq (.region f139.r3) (.seq (.region f139.r4) (.cond (.t 16) (.seq (.region f139.r5) .ret) .skip)))) (.region f139.r6))))
def f139.r8 : List IOper := [
 oz 4 (.mv (.c (.d (.int .i64 (-1)))))]
def f139 : IFn := ⟨2, 19, [.t 4], (.seq (.region f139.r0) (.seq (.seq (.region f139.r1) (.block 0 (.loop f139.l7))) (.seq (.region f139.r8) .ret)))⟩
def f140.r0 : List IOper := [
 oz 4 (.mv oA)]
def f140.r1 : List IOper := [
 om 6 0,
 oN 7 6,
 oz 8 (.mv oA)]
def f140.r2 : List IOper := [
 oz 9 (.bin .lss (.t 8) (.t 7))]
def f140.r3 : List IOper := [
 om 10 8,
 om 5 10]
def f140.r4 : List IOper := [
 om 11 1,
 om 12 0,
 om 13 5,
 oI 14 1 12 13,
 oL 15 1 false 14,
 oz 16 (.callv (.t 11) [(.t 15)])]
def f140.r5 : List IOper := [
 om 17 5,
 om 4 17]
def f140.r6 : List IOper := [
 oz 18 (.bin .add (.t 8) oB),
 om 8 18]
def f140.l7 : IR := (.seq (.region f140.r2) (.seq (.cond (.t 9) .skip (.exit 0)) (.seq (.block 1 (.seq (.region f140.r3) (.seq (.region f140.r4) (.cond (.t 16) (.seq (.region f140.r5) .ret) .skip)))) (.region f140.r6))))
def f140.r8 : List IOper := [
 oz 4 (.mv (.c (.d (.int .i64 (-1)))))]
def f140 : IFn := ⟨2, 19, [.t 4], (.seq (.region f140.r0) (.seq (.seq (.region f140.r1) (.block 0 (.loop f140.l7))) (.seq (.region f140.r8) .ret)))⟩
def f142.r0 : List IOper := [
 oz 2 (.mv oD)]
def f142.r1 : List IOper := [
 om 3 0,
 oz 4 (.bin .geq (.t 3) (.c (.d (.int .i64 (-1000000))))),
 om 5 4,
 oM 6 5 true 0,
 og 7 5 true (.bin .leq (.t 6) (.c (.d (.int .i64 1000000)))),
 oz 8 (.pick (.t 5) (.t 7) oD),
 om 2 8]
def f142 : IFn := ⟨1, 9, [.t 2], (.seq (.region f142.r0) (.seq (.region f142.r1) .ret))⟩
def f153.r0 : List IOper := [
 oz 2 (.mv oD)]
def f153.r1 : List IOper := [
 om 3 0,
 oz 4 (.bin .geq (.t 3) (.c (.d (.int .i64 (-1000000))))),
 om 5 4,
 oM 6 5 true 0,
 og 7 5 true (.bin .leq (.t 6) (.c (.d (.int .i64 1000000)))),
 oz 8 (.pick (.t 5) (.t 7) oD),
 om 2 8]
def f153 : IFn := ⟨1, 9, [.t 2], (.seq (.region f153.r0) (.seq (.region f153.r1) .ret))⟩
def f157.r0 : List IOper := [
⟨some 8, .mv (.c (.d (.bool true))), none, []⟩]
def f157.r1 : List IOper := [
⟨some 9, .mv (.c (.d (.bool true))), none, []⟩]
def f157.r2 : List IOper := [
⟨some 19, .mv (.t 2), none, []⟩,
⟨some 20, .mv (.t 1), none, []⟩,
⟨some 21, .bin .sub (.t 19) (.t 20), none, []⟩,
⟨some 10, .mv (.t 21), none, []⟩]
def f157.r3 : List IOper := [
⟨some 22, .mv (.t 10), none, []⟩,
⟨some 23, .bin .leq (.t 22) (.c (.d (.int .i64 12))), none, []⟩]
def f157.r4 : List IOper := [
⟨some 24, .mv (.t 0), none, []⟩,
⟨some 25, .mv (.t 1), none, []⟩,
⟨some 26, .mv (.t 2), none, []⟩,
⟨some 27, .call 212 [(.t 24), (.t 25), (.t 26)], none, []⟩]
def f157.r5 : List IOper := [
⟨some 28, .mv (.t 3), none, []⟩,
⟨some 29, .bin .eql (.t 28) (.c (.d (.int .i64 0))), none, []⟩]
def f157.r6 : List IOper := [
⟨some 30, .mv (.t 0), none, []⟩,
⟨some 31, .mv (.t 1), none, []⟩,
⟨some 32, .mv (.t 2), none, []⟩,
⟨some 33, .call 213 [(.t 30), (.t 31), (.t 32)], none, []⟩]
def f157.r7 : List IOper := [
⟨some 34, .mv (.t 8), none, []⟩,
⟨some 35, .un .not (.t 34), none, []⟩]
def f157.r8 : List IOper := [
⟨some 36, .mv (.t 0), none, []⟩,
⟨some 37, .mv (.t 1), none, []⟩,
⟨some 38, .mv (.t 2), none, []⟩,
⟨some 39, .call 214 [(.t 36), (.t 37), (.t 38)], none, []⟩]
def f157.r9 : List IOper := [
⟨some 40, .mv (.t 3), none, []⟩,
⟨some 41, .bin .sub (.t 40) (.c (.d (.int .i64 1))), none, []⟩,
⟨some 3, .mv (.t 41), none, []⟩]
def f157.r10 : List IOper := [
⟨some 43, .mv (.t 0), none, []⟩,
⟨some 44, .mv (.t 1), none, []⟩,
⟨some 45, .mv (.t 2), none, []⟩,
⟨some 46, .call 215 [(.t 43), (.t 44), (.t 45)], none, []⟩,
⟨some 42, .mv (.t 46), none, []⟩,
⟨some 47, .ext (.t 42) 0, none, []⟩,
⟨some 48, .ext (.t 42) 1, none, []⟩,
⟨some 11, .mv (.t 47), none, []⟩,
⟨some 12, .mv (.t 48), none, []⟩]
def f157.r11 : List IOper := [
⟨some 49, .mv (.t 12), none, []⟩,
⟨some 50, .bin .eql (.t 49) (.c (.d (.int .i64 2))), none, []⟩]
def f157.r12 : List IOper := [
⟨some 51, .mv (.t 0), none, []⟩,
⟨some 52, .mv (.t 1), none, []⟩,
⟨some 53, .mv (.t 2), none, []⟩,
⟨some 54, .call 216 [(.t 51), (.t 52), (.t 53)], none, []⟩]
def f157.r13 : List IOper := [
⟨some 55, .mv (.t 2), none, []⟩,
⟨some 56, .bin .sub (.t 55) (.c (.d (.int .i64 1))), none, []⟩,
⟨some 57, .mv (.t 11), none, []⟩,
⟨some 58, .mv (.t 1), none, []⟩,
⟨some 59, .bin .sub (.t 57) (.t 58), none, []⟩,
⟨some 60, .bin .sub (.t 56) (.t 59), none, []⟩,
⟨some 11, .mv (.t 60), none, []⟩]
def f157.r14 : List IOper := [
⟨some 12, .mv (.c (.d (.int .i64 1))), none, []⟩]
def f157.r15 : List IOper := [
⟨some 61, .mv (.t 8), none, []⟩,
⟨some 62, .mv (.t 61), none, []⟩,
⟨some 63, .mv (.t 9), some (62, true), []⟩,
⟨some 64, .pick (.t 62) (.t 63) (.c (.d (.bool false))), none, []⟩,
⟨some 65, .mv (.t 64), none, []⟩,
⟨some 66, .mv (.t 12), some (65, true), []⟩,
⟨some 67, .bin .eql (.t 66) (.c (.d (.int .i64 1))), some (65, true), []⟩,
⟨some 68, .pick (.t 65) (.t 67) (.c (.d (.bool false))), none, []⟩]
def f157.r16 : List IOper := [
⟨some 69, .mv (.t 0), none, []⟩,
⟨some 70, .mv (.t 1), none, []⟩,
⟨some 71, .mv (.t 2), none, []⟩,
⟨some 72, .call 217 [(.t 69), (.t 70), (.t 71)], none, []⟩]
def f157.r17 : List IOper := [
⟨some 73, .mv (.t 1), none, []⟩,
⟨some 74, .bin .gtr (.t 73) (.c (.d (.int .i64 0))), none, [0]⟩,
⟨some 75, .mv (.t 74), none, [1]⟩,
⟨some 76, .mv (.t 0), some (75, true), [2]⟩,
⟨some 77, .mv (.t 1), some (75, true), [2]⟩,
⟨some 78, .bin .sub (.t 77) (.c (.d (.int .i64 1))), some (75, true), [4, 2]⟩,
⟨some 79, .iaddr 1 (.t 76) (.t 78), some (75, true), [3, 5, 2]⟩,
⟨some 80, .load 1 false (.t 79), some (75, true), [6, 2]⟩,
⟨some 81, .mv (.t 0), some (75, true), [2]⟩,
⟨some 82, .mv (.t 11), some (75, true), [2]⟩,
⟨some 83, .iaddr 1 (.t 81) (.t 82), some (75, true), [8, 9, 2]⟩,
⟨some 84, .load 1 false (.t 83), some (75, true), [10, 2]⟩,
⟨some 85, .call 218 [(.t 80), (.t 84)], some (75, true), [7, 11, 2, 2]⟩,
⟨some 86, .un .not (.t 85), some (75, true), [12, 2]⟩,
⟨some 87, .pick (.t 75) (.t 86) (.c (.d (.bool false))), none, [2, 13]⟩]
def f157.r18 : List IOper := [
⟨some 88, .mv (.t 0), none, []⟩,
⟨some 89, .mv (.t 1), none, []⟩,
⟨some 90, .mv (.t 2), none, []⟩,
⟨some 91, .mv (.t 11), none, []⟩,
⟨some 92, .call 219 [(.t 88), (.t 89), (.t 90), (.t 91)], none, []⟩,
⟨some 13, .mv (.t 92), none, []⟩]
def f157.r19 : List IOper := [
⟨some 93, .mv (.t 13), none, []⟩,
⟨some 1, .mv (.t 93), none, []⟩]
def f157.r20 : List IOper := [
⟨some 95, .mv (.t 0), none, []⟩,
⟨some 96, .mv (.t 1), none, []⟩,
⟨some 97, .mv (.t 2), none, []⟩,
⟨some 98, .mv (.t 11), none, []⟩,
⟨some 99, .call 220 [(.t 95), (.t 96), (.t 97), (.t 98)], none, []⟩,
⟨some 94, .mv (.t 99), none, []⟩,
⟨some 100, .ext (.t 94) 0, none, []⟩,
⟨some 101, .ext (.t 94) 1, none, []⟩,
⟨some 14, .mv (.t 100), none, []⟩,
⟨some 15, .mv (.t 101), none, []⟩]
def f157.r21 : List IOper := [
⟨some 102, .mv (.t 15), none, []⟩,
⟨some 9, .mv (.t 102), none, []⟩]
def f157.r22 : List IOper := [
⟨some 103, .mv (.t 14), none, []⟩,
⟨some 104, .mv (.t 1), none, []⟩,
⟨some 105, .bin .sub (.t 103) (.t 104), none, []⟩,
⟨some 106, .mv (.t 2), none, []⟩,
⟨some 107, .mv (.t 14), none, []⟩,
⟨some 108, .bin .sub (.t 106) (.t 107), none, []⟩,
⟨some 16, .mv (.t 105), none, []⟩,
⟨some 17, .mv (.t 108), none, []⟩]
def f157.r23 : List IOper := [
⟨some 109, .mv (.t 10), none, []⟩,
⟨some 110, .bin .quo (.t 109) (.c (.d (.int .i64 8))), none, []⟩,
⟨some 18, .mv (.t 110), none, []⟩]
def f157.r24 : List IOper := [
⟨some 111, .mv (.t 16), none, []⟩,
⟨some 112, .mv (.t 17), none, []⟩,
⟨some 113, .bin .lss (.t 111) (.t 112), none, []⟩]
def f157.r25 : List IOper := [
⟨some 114, .mv (.t 16), none, []⟩,
⟨some 115, .mv (.t 18), none, []⟩,
⟨some 116, .bin .geq (.t 114) (.t 115), none, []⟩,
⟨some 8, .mv (.t 116), none, []⟩]
def f157.r26 : List IOper := [
⟨some 117, .mv (.t 0), none, []⟩,
⟨some 118, .mv (.t 1), none, []⟩,
⟨some 119, .mv (.t 14), none, []⟩,
⟨some 120, .mv (.t 3), none, []⟩,
⟨some 121, .call 157 [(.t 117), (.t 118), (.t 119), (.t 120)], none, []⟩]
def f157.r27 : List IOper := [
⟨some 122, .mv (.t 14), none, []⟩,
⟨some 123, .bin .add (.t 122) (.c (.d (.int .i64 1))), none, []⟩,
⟨some 1, .mv (.t 123), none, []⟩]
def f157.r28 : List IOper := [
⟨some 124, .mv (.t 17), none, []⟩,
⟨some 125, .mv (.t 18), none, []⟩,
⟨some 126, .bin .geq (.t 124) (.t 125), none, []⟩,
⟨some 8, .mv (.t 126), none, []⟩]
def f157.r29 : List IOper := [
⟨some 127, .mv (.t 0), none, []⟩,
⟨some 128, .mv (.t 14), none, []⟩,
⟨some 129, .bin .add (.t 128) (.c (.d (.int .i64 1))), none, []⟩,
⟨some 130, .mv (.t 2), none, []⟩,
⟨some 131, .mv (.t 3), none, []⟩,
⟨some 132, .call 157 [(.t 127), (.t 129), (.t 130), (.t 131)], none, []⟩]
def f157.r30 : List IOper := [
⟨some 133, .mv (.t 14), none, []⟩,
⟨some 2, .mv (.t 133), none, []⟩]
def f157.l31 : IR := (.block 1 (.seq (.region f157.r2) (.seq (.seq (.region f157.r3) (.cond (.t 23) (.seq (.region f157.r4) .ret) .skip)) (.seq (.seq (.region f157.r5) (.cond (.t 29) (.seq (.region f157.r6) .ret) .skip)) (.seq (.seq (.region f157.r7) (.cond (.t 35) (.seq (.region f157.r8) (.region f157.r9)) .skip)) (.seq (.region f157.r10) (.seq (.seq (.region f157.r11) (.cond (.t 50) (.seq (.region f157.r12) (.seq (.region f157.r13) (.region f157.r14))) .skip)) (.seq (.seq (.region f157.r15) (.cond (.t 68) (.seq (.region f157.r16) (.cond (.t 72) .ret .skip)) .skip)) (.seq (.seq (.draw f157.r17) (.cond (.t 87) (.seq (.region f157.r18) (.seq (.region f157.r19) (.exit 1))) .skip)) (.seq (.region f157.r20) (.seq (.region f157.r21) (.seq (.region f157.r22) (.seq (.region f157.r23) (.seq (.region f157.r24) (.cond (.t 113) (.seq (.region f157.r25) (.seq (.region f157.r26) (.region f157.r27))) (.seq (.region f157.r28) (.seq (.region f157.r29) (.region f157.r30))))))))))))))))))
def f157 : IFn := ⟨4, 134, [], (.seq (.region f157.r0) (.seq (.region f157.r1) (.block 0 (.loop f157.l31))))⟩
def f158.r0 : List IOper := [
⟨some 2, .mv (.c (.d (.int .i64 0))), none, []⟩]
def f158.r1 : List IOper := [
⟨some 3, .mv (.t 0), none, []⟩,
⟨some 4, .conv .u32 (.t 3), none, []⟩,
⟨some 5, .call 221 [(.t 4)], none, []⟩,
⟨some 2, .mv (.t 5), none, []⟩]
def f158.r2 : List IOper := [
⟨some 6, .mv (.t 0), none, []⟩,
⟨some 7, .call 222 [(.t 6)], none, []⟩,
⟨some 2, .mv (.t 7), none, []⟩]
def f158 : IFn := ⟨1, 8, [.t 2], (.seq (.region f158.r0) (.seq (.cond (.c (.d (.bool false))) (.seq (.region f158.r1) .ret) .skip) (.seq (.region f158.r2) .ret)))⟩
def f170.r0 : List IOper := [
⟨some 2, .mv (.c (.nils)), none, []⟩]
def f170.r1 : List IOper := [
⟨some 3, .mv (.t 0), none, []⟩,
⟨some 4, .eq false .slice (.t 3) (.c (.nils)), none, []⟩]
def f170.r2 : List IOper := [
⟨some 2, .mv (.c (.nils)), none, []⟩]
def f170.r3 : List IOper := [
⟨some 5, .mkSlice 2 0 [] [], none, []⟩,
⟨some 6, .mv (.t 0), none, []⟩,
⟨some 7, .append 2 24 (.t 5) (.t 6), none, []⟩,
⟨some 2, .mv (.t 7), none, []⟩]
def f170 : IFn := ⟨1, 8, [.t 2], (.seq (.region f170.r0) (.seq (.seq (.region f170.r1) (.cond (.t 4) (.seq (.region f170.r2) .ret) .skip)) (.seq (.region f170.r3) .ret)))⟩
def f171.r0 : List IOper := [
 oz 4 (.mv oE)]
def f171.r1 : List IOper := [
 om 7 0,
 oz 8 (.bin .eql (.t 7) oE),
 om 9 8,
 oM 10 9 false 1,
 og 11 9 false (.bin .eql (.t 10) oE),
 oz 12 (.pick (.t 9) oC (.t 11))]
def f171.r2 : List IOper := [
 om 13 0,
 om 4 13]
def f171.r3 : List IOper := [
 om 14 1,
 oz 15 (.len .str (.t 14)),
 oz 16 (.bin .eql (.t 15) oB),
 om 17 16,
 oM 18 17 true 1,
 og 19 17 true (.idxS (.t 18) oA),
 og 20 17 true (.bin .lss (.t 19) (.c (.d (.int .u8 128)))),
 oz 21 (.pick (.t 17) (.t 20) oD)]
def f171.r4 : List IOper := [
 om 22 0,
 om 23 1,
 oV 24 [1] (.idxS (.t 23) oA),
 oV 25 [0, 2] (.call 239 [(.t 22), (.t 24)]),
 om 26 1,
 oV 27 [4] (.idxS (.t 26) oA),
 oV 28 [3, 5, 3] (.call 238 [(.t 25), (.t 27)]),
 oV 4 [6, 6, 0, 1, 2, 3, 4, 5, 6] (.mv (.t 28))]
def f171.r5 : List IOper := [
 om 30 1,
 oR 31 240 30,
 om 29 31,
 oX 32 29 0,
 oX 33 29 1,
 oz 5 (.alloc [.d (.bool false), .d (.bool false), .d (.bool false), .d (.bool false), .d (.bool false), .d (.bool false), .d (.bool false), .d (.bool false), .d (.bool false), .d (.bool false), .d (.bool false), .d (.bool false), .d (.bool false), .d (.bool false), .d (.bool false), .d (.bool false), .d (.bool false), .d (.bool false), .d (.bool false), .d (.bool false), .d (.bool false), .d (.bool false), .d (.bool false), .d (.bool false), .d (.bool false), .d (.bool false), .d (.bool false), .d (.bool false), .d (.bool false), .d (.bool false), .d (.bool false), .d (.bool false), .d (.bool false), .d (.bool false), .d (.bool false), .d (.bool false), .d (.bool false), .d (.bool false), .d (.bool false), .d (.bool false), .d (.bool false), .d (.bool false), .d (.bool false), .d (.bool false), .d (.bool false), .d (.bool false), .d (.bool false), .d (.bool false), .d (.bool false), .d (.bool false), .d (.bool false), .d (.bool false), .d (.bool false), .d (.bool false), .d (.bool false), .d (.bool false), .d (.bool false), .d (.bool false), .d (.bool false), .d (.bool false), .d (.bool false), .d (.bool false), .d (.bool false), .d (.bool false), .d (.bool false), .d (.bool false), .d (.bool false), .d (.bool false), .d (.bool false), .d (.bool false), .d (.bool false), .d (.bool false), .d (.bool false), .d (.bool false), .d (.bool false), .d (.bool false), .d (.bool false), .d (.bool false), .d (.bool false), .d (.bool false), .d (.bool false), .d (.bool false), .d (.bool false), .d (.bool false), .d (.bool false), .d (.bool false), .d (.bool false), .d (.bool false), .d (.bool false), .d (.bool false), .d (.bool false), .d (.bool false), .d (.bool false), .d (.bool false), .d (.bool false), .d (.bool false), .d (.bool false), .d (.bool false), .d (.bool false), .d (.bool false), .d (.bool false), .d (.bool false), .d (.bool false), .d (.bool false), .d (.bool false), .d (.bool false), .d (.bool false), .d (.bool false), .d (.bool false), .d (.bool false), .d (.bool false), .d (.bool false), .d (.bool false), .d (.bool false), .d (.bool false), .d (.bool false), .d (.bool false), .d (.bool false), .d (.bool false), .d (.bool false), .d (.bool false), .d (.bool false), .d (.bool false), .d (.bool false), .d (.bool false), .d (.bool false), .d (.bool false), .d (.bool false), .d (.bool false), .d (.bool false), .d (.bool false), .d (.bool false), .d (.bool false), .d (.bool false), .d (.bool false), .d (.bool false), .d (.bool false), .d (.bool false), .d (.bool false), .d (.bool false), .d (.bool false), .d (.bool false), .d (.bool false), .d (.bool false), .d (.bool false), .d (.bool false), .d (.bool false), .d (.bool false), .d (.bool false), .d (.bool false), .d (.bool false), .d (.bool false), .d (.bool false), .d (.bool false), .d (.bool false), .d (.bool false), .d (.bool false), .d (.bool false), .d (.bool false), .d (.bool false), .d (.bool false), .d (.bool false), .d (.bool false), .d (.bool false), .d (.bool false), .d (.bool false), .d (.bool false), .d (.bool false), .d (.bool false), .d (.bool false), .d (.bool false), .d (.bool false), .d (.bool false), .d (.bool false), .d (.bool false), .d (.bool false), .d (.bool false), .d (.bool false), .d (.bool false), .d (.bool false), .d (.bool false), .d (.bool false), .d (.bool false), .d (.bool false), .d (.bool false), .d (.bool false), .d (.bool false), .d (.bool false), .d (.bool false), .d (.bool false), .d (.bool false), .d (.bool false), .d (.bool false), .d (.bool false), .d (.bool false), .d (.bool false), .d (.bool false), .d (.bool false), .d (.bool false), .d (.bool false), .d (.bool false), .d (.bool false), .d (.bool false), .d (.bool false), .d (.bool false), .d (.bool false), .d (.bool false), .d (.bool false), .d (.bool false), .d (.bool false), .d (.bool false), .d (.bool false), .d (.bool false), .d (.bool false), .d (.bool false), .d (.bool false), .d (.bool false), .d (.bool false), .d (.bool false), .d (.bool false), .d (.bool false), .d (.bool false), .d (.bool false), .d (.bool false), .d (.bool false), .d (.bool false), .d (.bool false), .d (.bool false), .d (.bool false), .d (.bool false), .d (.bool false), .d (.bool false), .d (.bool false), .d (.bool false), .d (.bool false), .d (.bool false), .d (.bool false), .d (.bool false), .d (.bool false), .d (.bool false), .d (.bool false), .d (.bool false), .d (.bool false), .d (.bool false), .d (.bool false), .d (.bool false), .d (.bool false), .d (.bool false), .d (.bool false), .d (.bool false), .d (.bool false), .d (.bool false), .d (.bool false), .d (.bool false), .d (.bool false), .d (.bool false)]),
 oy (.store 256 (.t 5) (.t 32)),
 om 6 33]
def f171.r6 : List IOper := [
 om 34 6]
def f171.r7 : List IOper := [
 om 35 0,
 oz 36 (.call 242 [(.t 35), (.t 5)]),
 oz 37 (.call 241 [(.t 36), (.t 5)]),
 om 4 37]
def f171.r8 : List IOper := [
 om 38 0,
 om 39 1,
 oz 40 (.call 244 [(.t 38), (.t 39)]),
 om 41 1,
 oz 42 (.call 243 [(.t 40), (.t 41)]),
 om 4 42]
def f171 : IFn := ⟨2, 43, [.t 4], (.seq (.region f171.r0) (.seq (.seq (.region f171.r1) (.cond (.t 12) (.seq (.region f171.r2) .ret) .skip)) (.seq (.seq (.region f171.r3) (.cond (.t 21) (.seq (.draw f171.r4) .ret) .skip)) (.seq (.seq (.region f171.r5) (.seq (.region f171.r6) (.cond (.t 34) (.seq (.region f171.r7) .ret) .skip))) (.seq (.region f171.r8) .ret)))))⟩
def f174.r0 : List IOper := [
 oz 4 (.mv oA)]
def f174.r1 : List IOper := [
 om 6 0,
 oN 7 6,
 oz 8 (.mv oA)]
def f174.r2 : List IOper := [
 oz 9 (.bin .lss (.t 8) (.t 7))]
def f174.r3 : List IOper := [
 om 10 8,
 om 5 10]
def f174.r4 : List IOper := [
 om 11 1,
 om 12 0,
 om 13 5,
 oI 14 2 12 13,
 oL 15 2 true 14,
 oz 16 (.callv (.t 11) [(.t 15)])]
def f174.r5 : List IOper := [
 om 17 5,
 om 4 17]
def f174.r6 : List IOper := [
 oz 18 (.bin .add (.t 8) oB),
 om 8 18]
def f174.l7 : IR := (.seq (.region f174.r2) (.seq (.cond (.t 9) .skip (.exit 0)) (.seq (.block 1 (.seq (.region f174.r3) (.seq (.region f174.r4) (.cond (.t 16) (.seq (.region f174.r5) .ret) .skip)))) (.region f174.r6))))
def f174.r8 : List IOper := [
 oz 4 (.mv (.c (.d (.int .i64 (-1)))))]
def f174 : IFn := ⟨2, 19, [.t 4], (.seq (.region f174.r0) (.seq (.seq (.region f174.r1) (.block 0 (.loop f174.l7))) (.seq (.region f174.r8) .ret)))⟩
def f175.r0 : List IOper := [
 oz 4 (.alloc oS),
 oz 5 (.mv oA)]
def f175.r1 : List IOper := [
 om 6 1,
 oN 7 6,
 oz 8 (.bin .gtr (.t 7) (.c (.d (.int .i64 6))))]
def f175.r2 : List IOper := [
 oz 9 (.build oS []),
 oy (.store 2 (.t 4) (.t 9)),
 oz 5 (.mv (.c (.d (.int .i64 3))))]
def f175.r3 : List IOper := [
 om 10 0,
 om 11 1,
 oR 12 110 11,
 oz 13 (.build oS [(0, 1, (.t 10)), (1, 1, (.t 12))]),
 oy (.store 2 (.t 4) (.t 13)),
 oz 5 (.mv oA)]
def f175 : IFn := ⟨2, 14, [.cell 4 2 true, .t 5], (.seq (.region f175.r0) (.seq (.seq (.region f175.r1) (.cond (.t 8) (.seq (.region f175.r2) .ret) .skip)) (.seq (.region f175.r3) .ret)))⟩
def f176.r0 : List IOper := [
 oz 2 (.mv (.c (.nils)))]
def f176.r1 : List IOper := [
 oz 3 (.mv oA)]
def f176.r2 : List IOper := [
 om 9 0,
 oN 10 9,
 oz 11 (.mv oA)]
def f176.r3 : List IOper := [
 oz 12 (.bin .lss (.t 11) (.t 10))]
def f176.r4 : List IOper := [
 oI 13 1 9 11,
 oL 14 1 false 13,
 om 5 14]
def f176.r5 : List IOper := [
 om 15 3,
 om 16 5,
 oN 17 16,
 oz 18 (.bin .add (.t 15) (.t 17)),
 om 3 18]
def f176.r6 : List IOper := [
 om 19 3,
 oz 20 (.bin .lss (.t 19) oA)]
def f176.r7 : List IOper := [
 oz 21 (.mkiface 9 (.c (.d (.str [108, 101, 110, 32, 111, 117, 116, 32, 111, 102, 32, 114, 97, 110, 103, 101])))),
 oy (.bad)]
def f176.r8 : List IOper := [
 oz 22 (.bin .add (.t 11) oB),
 om 11 22]
def f176.l9 : IR := (.seq (.region f176.r3) (.seq (.cond (.t 12) .skip (.exit 0)) (.seq (.block 1 (.seq (.region f176.r4) (.seq (.region f176.r5) (.seq (.region f176.r6) (.cond (.t 20) (.region f176.r7) .skip))))) (.region f176.r8))))
def f176.r10 : List IOper := [
 om 23 3,
 oz 24 (.call 248 [(.c (.nils)), (.t 23)]),
 om 6 24]
def f176.r11 : List IOper := [
 om 25 0,
 oN 26 25,
 oz 27 (.mv oA)]
def f176.r12 : List IOper := [
 oz 28 (.bin .lss (.t 27) (.t 26))]
def f176.r13 : List IOper := [
 oI 29 1 25 27,
 oL 30 1 false 29,
 om 8 30]
def f176.r14 : List IOper := [
 om 31 6,
 om 32 8,
 oz 33 (.append 2 32 (.t 31) (.t 32)),
 om 6 33]
def f176.r15 : List IOper := [
 oz 34 (.bin .add (.t 27) oB),
 om 27 34]
def f176.l16 : IR := (.seq (.region f176.r12) (.seq (.cond (.t 28) .skip (.exit 2)) (.seq (.block 3 (.seq (.region f176.r13) (.region f176.r14))) (.region f176.r15))))
def f176.r17 : List IOper := [
 om 35 6,
 om 2 35]
def f176 : IFn := ⟨1, 36, [.t 2], (.seq (.region f176.r0) (.seq (.region f176.r1) (.seq (.seq (.region f176.r2) (.block 0 (.loop f176.l9))) (.seq (.region f176.r10) (.seq (.seq (.region f176.r11) (.block 2 (.loop f176.l16))) (.seq (.region f176.r17) .ret))))))⟩
def f177.r0 : List IOper := [
 oz 2 (.mv oD)]
def f177.r1 : List IOper := [
 om 3 0,
 oz 4 (.bin .geq (.t 3) (.c (.d (.int .u8 48)))),
 om 5 4,
 oM 6 5 true 0,
 og 7 5 true (.bin .leq (.t 6) (.c (.d (.int .u8 57)))),
 oz 8 (.pick (.t 5) (.t 7) oD),
 om 2 8]
def f177 : IFn := ⟨1, 9, [.t 2], (.seq (.region f177.r0) (.seq (.region f177.r1) .ret))⟩
def f178.r0 : List IOper := [
 oz 2 (.mv oD)]
def f178.r1 : List IOper := [
 om 3 0,
 oz 4 (.bin .geq (.t 3) (.c (.d (.int .u8 97)))),
 om 5 4,
 oM 6 5 true 0,
 og 7 5 true (.bin .leq (.t 6) (.c (.d (.int .u8 122)))),
 oz 8 (.pick (.t 5) (.t 7) oD),
 om 2 8]
def f178 : IFn := ⟨1, 9, [.t 2], (.seq (.region f178.r0) (.seq (.region f178.r1) .ret))⟩
def f179.r0 : List IOper := [
 oz 6 (.mv oD)]
def f179.r1 : List IOper := [
 om 10 0,
 oN 11 10,
 om 12 1,
 oN 13 12,
 oz 14 (.bin .neq (.t 11) (.t 13))]
def f179.r2 : List IOper := [
 oz 6 (.mv oD)]
def f179.r3 : List IOper := [
 om 15 0,
 oN 16 15,
 oz 17 (.mv oA)]
def f179.r4 : List IOper := [
 oz 18 (.bin .lss (.t 17) (.t 16))]
def f179.r5 : List IOper := [
 om 19 17,
 oI 20 2 15 17,
 oL 21 2 true 20,
 oz 8 (.alloc [.d (.int .i64 0), .nils]),
 om 7 19,
 oy (.store 2 (.t 8) (.t 21))]
def f179.r6 : List IOper := [
 om 22 1,
 om 23 7,
 oI 24 2 22 23,
 oL 25 2 true 24,
 oz 9 (.alloc [.d (.int .i64 0), .nils]),
 oy (.store 2 (.t 9) (.t 25))]
def f179.r7 : List IOper := [
 om 26 2,
 oL 27 2 true 8,
 oL 28 2 true 9,
 oz 29 (.callv (.t 26) [(.t 27), (.t 28)]),
 oz 30 (.un .not (.t 29))]
def f179.r8 : List IOper := [
 oz 6 (.mv oD)]
def f179.r9 : List IOper := [
 oz 31 (.bin .add (.t 17) oB),
 om 17 31]
def f179.l10 : IR := (.seq (.region f179.r4) (.seq (.cond (.t 18) .skip (.exit 0)) (.seq (.block 1 (.seq (.region f179.r5) (.seq (.region f179.r6) (.seq (.region f179.r7) (.cond (.t 30) (.seq (.region f179.r8) .ret) .skip))))) (.region f179.r9))))
def f179.r11 : List IOper := [
 oz 6 (.mv oC)]
def f179 : IFn := ⟨3, 32, [.t 6], (.seq (.region f179.r0) (.seq (.seq (.region f179.r1) (.cond (.t 14) (.seq (.region f179.r2) .ret) .skip)) (.seq (.seq (.region f179.r3) (.block 0 (.loop f179.l10))) (.seq (.region f179.r11) .ret))))⟩
def f180.r0 : List IOper := [
 oz 2 (.box 2 (.t 0)),
 oz 3 (.box 2 (.t 1)),
 oz 4 (.mv oD)]
def f180.r1 : List IOper := [
 oF 5 0 1 2,
 oL 6 1 false 5,
 oF 7 0 1 3,
 oL 8 1 false 7,
 oz 9 (.bin .eql (.t 6) (.t 8)),
 om 10 9,
 oH 11 10 true 1 1 2,
 oG 12 10 true 1 false 11,
 oH 13 10 true 1 1 3,
 oG 14 10 true 1 false 13,
 og 15 10 true (.call 249 [(.t 12), (.t 14)]),
 oz 16 (.pick (.t 10) (.t 15) oD),
 om 4 16]
def f180 : IFn := ⟨2, 17, [.t 4], (.seq (.region f180.r0) (.seq (.region f180.r1) .ret))⟩
def f206.r0 : List IOper := [
⟨some 2, .alloc [.d (.int .i64 0), .nils], none, []⟩,
⟨some 3, .mv (.c (.d (.int .i64 0))), none, []⟩]
def f206.r1 : List IOper := [
⟨some 10, .mv (.t 0), none, []⟩,
⟨some 11, .nilchk (.t 10), none, []⟩,
⟨some 12, .faddr 0 1 (.t 11), none, []⟩,
⟨some 13, .load 1 false (.t 12), none, []⟩,
⟨some 14, .build [.d (.int .i64 0), .nils] [(0, 1, (.t 13))], none, []⟩,
⟨some 4, .alloc [.d (.int .i64 0), .nils], none, []⟩,
⟨none, .store 2 (.t 4) (.t 14), none, []⟩]
def f206.r2 : List IOper := [
⟨some 5, .mv (.c (.nils)), none, []⟩]
def f206.r3 : List IOper := [
⟨some 15, .mv (.t 0), none, []⟩,
⟨some 16, .nilchk (.t 15), none, []⟩,
⟨some 17, .faddr 1 1 (.t 16), none, []⟩,
⟨some 18, .load 1 false (.t 17), none, []⟩,
⟨some 19, .range true (.t 18), none, []⟩]
def f206.r4 : List IOper := [
⟨some 20, .nextM (.t 19), none, []⟩,
⟨some 21, .ext (.t 20) 0, none, []⟩]
def f206.r5 : List IOper := [
⟨some 22, .entry (.t 19), none, []⟩,
⟨some 23, .ext (.t 22) 0, none, []⟩,
⟨some 24, .ext (.t 22) 1, none, []⟩,
⟨some 6, .mv (.t 23), none, []⟩,
⟨some 7, .mv (.t 24), none, []⟩]
def f206.r6 : List IOper := [
⟨some 25, .mv (.t 7), none, []⟩,
⟨some 26, .bin .neq (.t 25) (.c (.d (.int .i64 0))), none, []⟩]
def f206.r7 : List IOper := [
⟨some 27, .mv (.t 5), none, []⟩,
⟨some 28, .mv (.t 6), none, []⟩,
⟨some 29, .mkSlice 1 1 [.d (.str [])] [(0, 1, (.t 28))], none, []⟩,
⟨some 30, .append 1 16 (.t 27) (.t 29), none, []⟩,
⟨some 5, .mv (.t 30), none, []⟩]
def f206.l8 : IR := (.seq (.region f206.r4) (.seq (.cond (.t 21) .skip (.exit 0)) (.block 1 (.seq (.region f206.r5) (.seq (.region f206.r6) (.cond (.t 26) (.region f206.r7) .skip))))))
def f206.r9 : List IOper := [
⟨some 31, .mv (.t 5), none, []⟩,
⟨some 32, .call 104 [(.t 31)], none, []⟩]
def f206.r10 : List IOper := [
⟨some 33, .mv (.t 5), none, []⟩,
⟨some 34, .len .slice (.t 33), none, []⟩,
⟨some 35, .mv (.c (.d (.int .i64 0))), none, []⟩]
def f206.r11 : List IOper := [
⟨some 36, .bin .lss (.t 35) (.t 34), none, []⟩]
def f206.r12 : List IOper := [
⟨some 37, .iaddr 1 (.t 33) (.t 35), none, []⟩,
⟨some 38, .load 1 false (.t 37), none, []⟩,
⟨some 9, .mv (.t 38), none, []⟩]
def f206.r13 : List IOper := [
⟨some 39, .faddr 1 1 (.t 4), none, []⟩,
⟨some 40, .load 1 false (.t 39), none, [0]⟩,
⟨some 41, .mv (.t 9), none, []⟩,
⟨some 42, .mv (.t 0), none, []⟩,
⟨some 43, .nilchk (.t 42), none, [3]⟩,
⟨some 44, .faddr 1 1 (.t 43), none, [4]⟩,
⟨some 45, .load 1 false (.t 44), none, [5]⟩,
⟨some 46, .mv (.t 9), none, []⟩,
⟨some 47, .lookup .str (.d (.int .i64 0)) false (.t 45) (.t 46), none, [6, 7]⟩,
⟨some 48, .build [.d (.str []), .d (.int .i64 0)] [(0, 1, (.t 41)), (1, 1, (.t 47))], none, [2, 8]⟩,
⟨some 49, .mkSlice 2 1 [.d (.str []), .d (.int .i64 0)] [(0, 2, (.t 48))], none, [9]⟩,
⟨some 50, .append 2 24 (.t 40) (.t 49), none, [1, 10]⟩,
⟨some 51, .faddr 1 1 (.t 4), none, [0, 1, 2, 3, 4, 5, 6, 7, 8, 9, 10, 11]⟩,
⟨none, .store 1 (.t 51) (.t 50), none, [12, 11, 11, 0, 1, 2, 3, 4, 5, 6, 7, 8, 9, 10, 11]⟩]
def f206.r14 : List IOper := [
⟨some 52, .bin .add (.t 35) (.c (.d (.int .i64 1))), none, []⟩,
⟨some 35, .mv (.t 52), none, []⟩]
def f206.l15 : IR := (.seq (.region f206.r11) (.seq (.cond (.t 36) .skip (.exit 2)) (.seq (.block 3 (.seq (.region f206.r12) (.draw f206.r13))) (.region f206.r14))))
def f206.r16 : List IOper := [
⟨some 53, .load 2 true (.t 4), none, []⟩,
⟨some 54, .call 89 [(.t 53)], none, []⟩,
⟨some 55, .un .not (.t 54), none, []⟩]
def f206.r17 : List IOper := [
⟨some 56, .build [.d (.int .i64 0), .nils] [], none, []⟩,
⟨none, .store 2 (.t 2) (.t 56), none, []⟩,
⟨some 3, .mv (.c (.d (.int .i64 3))), none, []⟩]
def f206.r18 : List IOper := [
⟨some 57, .load 2 true (.t 4), none, []⟩,
⟨none, .store 2 (.t 2) (.t 57), none, []⟩,
⟨some 3, .mv (.c (.d (.int .i64 0))), none, []⟩]
def f206 : IFn := ⟨1, 58, [.cell 2 2 true, .t 3], (.seq (.region f206.r0) (.seq (.region f206.r1) (.seq (.region f206.r2) (.seq (.seq (.region f206.r3) (.block 0 (.loop f206.l8))) (.seq (.region f206.r9) (.seq (.seq (.region f206.r10) (.block 2 (.loop f206.l15))) (.seq (.seq (.region f206.r16) (.cond (.t 55) (.seq (.region f206.r17) .ret) .skip)) (.seq (.region f206.r18) .ret))))))))⟩
def f212.r0 : List IOper := [
⟨some 8, .mv (.t 1), none, []⟩,
⟨some 9, .bin .add (.t 8) (.c (.d (.int .i64 1))), none, []⟩,
⟨some 6, .mv (.t 9), none, []⟩]
def f212.r1 : List IOper := [
⟨some 10, .mv (.t 6), none, []⟩,
⟨some 11, .mv (.t 2), none, []⟩,
⟨some 12, .bin .lss (.t 10) (.t 11), none, []⟩]
def f212.r2 : List IOper := [
⟨some 15, .mv (.t 6), none, []⟩,
⟨some 7, .mv (.t 15), none, []⟩]
def f212.r3 : List IOper := [
⟨some 16, .mv (.t 7), none, []⟩,
⟨some 17, .mv (.t 1), none, []⟩,
⟨some 18, .bin .gtr (.t 16) (.t 17), none, [0, 1]⟩,
⟨some 19, .mv (.t 18), none, [2]⟩,
⟨some 20, .mv (.t 0), some (19, true), [3]⟩,
⟨some 21, .mv (.t 7), some (19, true), [3]⟩,
⟨some 22, .iaddr 1 (.t 20) (.t 21), some (19, true), [4, 5, 3]⟩,
⟨some 23, .load 1 false (.t 22), some (19, true), [6, 3]⟩,
⟨some 24, .mv (.t 0), some (19, true), [3]⟩,
⟨some 25, .mv (.t 7), some (19, true), [3]⟩,
⟨some 26, .bin .sub (.t 25) (.c (.d (.int .i64 1))), some (19, true), [9, 3]⟩,
⟨some 27, .iaddr 1 (.t 24) (.t 26), some (19, true), [8, 10, 3]⟩,
⟨some 28, .load 1 false (.t 27), some (19, true), [11, 3]⟩,
⟨some 29, .call 218 [(.t 23), (.t 28)], some (19, true), [7, 12, 3, 3]⟩,
⟨some 30, .pick (.t 19) (.t 29) (.c (.d (.bool false))), none, [3, 13]⟩]
def f212.r4 : List IOper := [
⟨some 33, .mv (.t 0), none, []⟩,
⟨some 34, .mv (.t 7), none, []⟩,
⟨some 35, .mv (.t 0), none, []⟩,
⟨some 36, .mv (.t 7), none, []⟩,
⟨some 37, .bin .sub (.t 36) (.c (.d (.int .i64 1))), none, [3]⟩,
⟨some 38, .mv (.t 0), none, []⟩,
⟨some 39, .mv (.t 7), none, []⟩,
⟨some 40, .bin .sub (.t 39) (.c (.d (.int .i64 1))), none, [6]⟩,
⟨some 41, .iaddr 1 (.t 38) (.t 40), none, [5, 7]⟩,
⟨some 42, .load 1 false (.t 41), none, [8]⟩,
⟨some 43, .mv (.t 0), none, []⟩,
⟨some 44, .mv (.t 7), none, []⟩,
⟨some 45, .iaddr 1 (.t 43) (.t 44), none, [10, 11]⟩,
⟨some 46, .load 1 false (.t 45), none, [12]⟩,
⟨some 47, .iaddr 1 (.t 33) (.t 34), none, [0, 1, 0, 1, 5, 6, 7, 8, 9, 13]⟩,
⟨none, .store 1 (.t 47) (.t 42), none, [14, 9, 0, 1, 5, 6, 7, 8, 9, 13]⟩,
⟨some 48, .iaddr 1 (.t 35) (.t 37), none, [2, 4, 0, 1, 2, 3, 4, 5, 6, 7, 8, 9, 10, 11, 12, 13, 14, 15]⟩,
⟨none, .store 1 (.t 48) (.t 46), none, [16, 13, 15, 0, 1, 2, 3, 4, 5, 6, 7, 8, 9, 10, 11, 12, 13, 14, 15]⟩]
def f212.r5 : List IOper := [
⟨some 31, .mv (.t 7), none, []⟩,
⟨some 32, .bin .sub (.t 31) (.c (.d (.int .i64 1))), none, []⟩,
⟨some 7, .mv (.t 32), none, []⟩]
def f212.l6 : IR := (.seq (.seq (.draw f212.r3) (.cond (.t 30) .skip (.exit 2))) (.seq (.block 3 (.draw f212.r4)) (.region f212.r5)))
def f212.r7 : List IOper := [
⟨some 13, .mv (.t 6), none, []⟩,
⟨some 14, .bin .add (.t 13) (.c (.d (.int .i64 1))), none, []⟩,
⟨some 6, .mv (.t 14), none, []⟩]
def f212.l8 : IR := (.seq (.seq (.region f212.r1) (.cond (.t 12) .skip (.exit 0))) (.seq (.block 1 (.seq (.region f212.r2) (.block 2 (.loop f212.l6)))) (.region f212.r7)))
def f212 : IFn := ⟨3, 49, [], (.seq (.region f212.r0) (.block 0 (.loop f212.l8)))⟩
def f222.r0 : List IOper := [
⟨some 2, .mv (.c (.d (.int .i64 0))), none, []⟩]
def f222.r1 : List IOper := [
⟨some 3, .mv (.t 0), none, []⟩,
⟨some 4, .bin .geq (.t 3) (.c (.d (.int .u64 4294967296))), none, []⟩]
def f222.r2 : List IOper := [
⟨some 5, .mv (.t 0), none, []⟩,
⟨some 6, .bin .shr (.t 5) (.c (.d (.int .u64 32))), none, []⟩,
⟨some 0, .mv (.t 6), none, []⟩]
def f222.r3 : List IOper := [
⟨some 2, .mv (.c (.d (.int .i64 32))), none, []⟩]
def f222.r4 : List IOper := [
⟨some 7, .mv (.t 0), none, []⟩,
⟨some 8, .bin .geq (.t 7) (.c (.d (.int .u64 65536))), none, []⟩]
def f222.r5 : List IOper := [
⟨some 9, .mv (.t 0), none, []⟩,
⟨some 10, .bin .shr (.t 9) (.c (.d (.int .u64 16))), none, []⟩,
⟨some 0, .mv (.t 10), none, []⟩]
def f222.r6 : List IOper := [
⟨some 11, .mv (.t 2), none, []⟩,
⟨some 12, .bin .add (.t 11) (.c (.d (.int .i64 16))), none, []⟩,
⟨some 2, .mv (.t 12), none, []⟩]
def f222.r7 : List IOper := [
⟨some 13, .mv (.t 0), none, []⟩,
⟨some 14, .bin .geq (.t 13) (.c (.d (.int .u64 256))), none, []⟩]
def f222.r8 : List IOper := [
⟨some 15, .mv (.t 0), none, []⟩,
⟨some 16, .bin .shr (.t 15) (.c (.d (.int .u64 8))), none, []⟩,
⟨some 0, .mv (.t 16), none, []⟩]
def f222.r9 : List IOper := [
⟨some 17, .mv (.t 2), none, []⟩,
⟨some 18, .bin .add (.t 17) (.c (.d (.int .i64 8))), none, []⟩,
⟨some 2, .mv (.t 18), none, []⟩]
def f222.r10 : List IOper := [
⟨some 19, .mv (.t 2), none, []⟩,
⟨some 20, .mv (.t 0), none, []⟩,
⟨some 21, .conv .u8 (.t 20), none, []⟩,
⟨some 22, .idxS (.c (.d (.str [0, 1, 2, 2, 3, 3, 3, 3, 4, 4, 4, 4, 4, 4, 4, 4, 5, 5, 5, 5, 5, 5, 5, 5, 5, 5, 5, 5, 5, 5, 5, 5, 6, 6, 6, 6, 6, 6, 6, 6, 6, 6, 6, 6, 6, 6, 6, 6, 6, 6, 6, 6, 6, 6, 6, 6, 6, 6, 6, 6, 6, 6, 6, 6, 7, 7, 7, 7, 7, 7, 7, 7, 7, 7, 7, 7, 7, 7, 7, 7, 7, 7, 7, 7, 7, 7, 7, 7, 7, 7, 7, 7, 7, 7, 7, 7, 7, 7, 7, 7, 7, 7, 7, 7, 7, 7, 7, 7, 7, 7, 7, 7, 7, 7, 7, 7, 7, 7, 7, 7, 7, 7, 7, 7, 7, 7, 7, 7, 8, 8, 8, 8, 8, 8, 8, 8, 8, 8, 8, 8, 8, 8, 8, 8, 8, 8, 8, 8, 8, 8, 8, 8, 8, 8, 8, 8, 8, 8, 8, 8, 8, 8, 8, 8, 8, 8, 8, 8, 8, 8, 8, 8, 8, 8, 8, 8, 8, 8, 8, 8, 8, 8, 8, 8, 8, 8, 8, 8, 8, 8, 8, 8, 8, 8, 8, 8, 8, 8, 8, 8, 8, 8, 8, 8, 8, 8, 8, 8, 8, 8, 8, 8, 8, 8, 8, 8, 8, 8, 8, 8, 8, 8, 8, 8, 8, 8, 8, 8, 8, 8, 8, 8, 8, 8, 8, 8, 8, 8, 8, 8, 8, 8, 8, 8, 8, 8, 8, 8, 8, 8, 8, 8, 8, 8, 8, 8]))) (.t 21), none, []⟩,
⟨some 23, .conv .i64 (.t 22), none, []⟩,
⟨some 24, .bin .add (.t 19) (.t 23), none, []⟩,
⟨some 2, .mv (.t 24), none, []⟩]
def f222 : IFn := ⟨1, 25, [.t 2], (.seq (.region f222.r0) (.seq (.seq (.region f222.r1) (.cond (.t 4) (.seq (.region f222.r2) (.region f222.r3)) .skip)) (.seq (.seq (.region f222.r4) (.cond (.t 8) (.seq (.region f222.r5) (.region f222.r6)) .skip)) (.seq (.seq (.region f222.r7) (.cond (.t 14) (.seq (.region f222.r8) (.region f222.r9)) .skip)) (.seq (.region f222.r10) .ret)))))⟩
def f241.r0 : List IOper := [
 oz 4 (.mv oE)]
def f241.r1 : List IOper := [
 om 5 0,
 oz 6 (.len .str (.t 5)),
 oz 7 (.bin .gtr (.t 6) oA)]
def f241.r2 : List IOper := [
 om 8 1,
 om 9 0,
 oz 10 (.idxS (.t 9) oA),
 oz 11 (.call 282 [(.t 8), (.t 10)]),
 oz 12 (.un .not (.t 11))]
def f241.r3 : List IOper := [
 om 13 0,
 oz 14 (.sslice (.t 13) (some oB) none),
 om 0 14]
def f241.l4 : IR := (.seq (.seq (.region f241.r1) (.cond (.t 7) .skip (.exit 0))) (.block 1 (.seq (.seq (.region f241.r2) (.cond (.t 12) (.exit 0) .skip)) (.region f241.r3))))
def f241.r5 : List IOper := [
 om 15 0,
 om 4 15]
def f241 : IFn := ⟨2, 16, [.t 4], (.seq (.region f241.r0) (.seq (.block 0 (.loop f241.l4)) (.seq (.region f241.r5) .ret)))⟩
def f242.r0 : List IOper := [
 oz 4 (.mv oE)]
def f242.r1 : List IOper := [
 om 5 0,
 oz 6 (.len .str (.t 5)),
 oz 7 (.bin .gtr (.t 6) oA)]
def f242.r2 : List IOper := [
 om 8 1,
 om 9 0,
 om 10 0,
 oz 11 (.len .str (.t 10)),
 oz 12 (.bin .sub (.t 11) oB),
 oz 13 (.idxS (.t 9) (.t 12)),
 oz 14 (.call 282 [(.t 8), (.t 13)]),
 oz 15 (.un .not (.t 14))]
def f242.r3 : List IOper := [
 om 16 0,
 om 17 0,
 oz 18 (.len .str (.t 17)),
 oz 19 (.bin .sub (.t 18) oB),
 oz 20 (.sslice (.t 16) none (some (.t 19))),
 om 0 20]
def f242.l4 : IR := (.seq (.seq (.region f242.r1) (.cond (.t 7) .skip (.exit 0))) (.block 1 (.seq (.seq (.region f242.r2) (.cond (.t 15) (.exit 0) .skip)) (.region f242.r3))))
def f242.r5 : List IOper := [
 om 21 0,
 om 4 21]
def f242 : IFn := ⟨2, 22, [.t 4], (.seq (.region f242.r0) (.seq (.block 0 (.loop f242.l4)) (.seq (.region f242.r5) .ret)))⟩
def f248.r0 : List IOper := [
⟨some 4, .mv (.c (.nils)), none, []⟩]
def f248.r1 : List IOper := [
⟨some 5, .mv (.t 1), none, []⟩,
⟨some 6, .bin .lss (.t 5) (.c (.d (.int .i64 0))), none, []⟩]
def f248.r2 : List IOper := [
⟨some 7, .mkiface 9 (.c (.d (.str [99, 97, 110, 110, 111, 116, 32, 98, 101, 32, 110, 101, 103, 97, 116, 105, 118, 101]))), none, []⟩,
⟨none, .bad, none, []⟩]
def f248.r3 : List IOper := [
⟨some 8, .mv (.t 1), none, []⟩,
⟨some 9, .mv (.t 0), none, []⟩,
⟨some 10, .cap (.t 9), none, []⟩,
⟨some 11, .mv (.t 0), none, []⟩,
⟨some 12, .len .slice (.t 11), none, []⟩,
⟨some 13, .bin .sub (.t 10) (.t 12), none, []⟩,
⟨some 14, .bin .sub (.t 8) (.t 13), none, []⟩,
⟨some 1, .mv (.t 14), none, []⟩]
def f248.r4 : List IOper := [
⟨some 15, .mv (.t 1), none, []⟩,
⟨some 16, .bin .gtr (.t 15) (.c (.d (.int .i64 0))), none, []⟩]
def f248.r5 : List IOper := [
⟨some 17, .mv (.t 0), none, []⟩,
⟨some 18, .mv (.t 0), none, []⟩,
⟨some 19, .cap (.t 18), none, []⟩,
⟨some 20, .lslice 2 (.t 17) none (some (.t 19)), none, []⟩,
⟨some 21, .mv (.t 1), none, []⟩,
⟨some 22, .appendN 2 32 [.d (.int .i64 0), .nils] (.t 20) (.t 21), none, []⟩,
⟨some 23, .mv (.t 0), none, []⟩,
⟨some 24, .len .slice (.t 23), none, []⟩,
⟨some 25, .lslice 2 (.t 22) none (some (.t 24)), none, []⟩,
⟨some 0, .mv (.t 25), none, []⟩]
def f248.r6 : List IOper := [
⟨some 26, .mv (.t 0), none, []⟩,
⟨some 4, .mv (.t 26), none, []⟩]
def f248 : IFn := ⟨2, 27, [.t 4], (.seq (.region f248.r0) (.seq (.seq (.region f248.r1) (.cond (.t 6) (.region f248.r2) .skip)) (.seq (.seq (.region f248.r3) (.seq (.region f248.r4) (.cond (.t 16) (.region f248.r5) .skip))) (.seq (.region f248.r6) .ret))))⟩
def f249.r0 : List IOper := [
 oz 4 (.mv oD)]
def f249.r1 : List IOper := [
 om 6 0,
 oN 7 6,
 om 8 1,
 oN 9 8,
 oz 10 (.bin .neq (.t 7) (.t 9))]
def f249.r2 : List IOper := [
 oz 4 (.mv oD)]
def f249.r3 : List IOper := [
 om 11 0,
 oN 12 11,
 oz 13 (.mv oA)]
def f249.r4 : List IOper := [
 oz 14 (.bin .lss (.t 13) (.t 12))]
def f249.r5 : List IOper := [
 om 15 13,
 om 5 15]
def f249.r6 : List IOper := [
 om 16 0,
 om 17 5,
 oV 18 [0, 1] (.iaddr 2 (.t 16) (.t 17)),
 oV 19 [2] (.load 2 true (.t 18)),
 om 20 1,
 om 21 5,
 oV 22 [4, 5] (.iaddr 2 (.t 20) (.t 21)),
 oV 23 [6] (.load 2 true (.t 22)),
 oV 24 [3, 7] (.eqS true [.str, .int] (.t 19) (.t 23))]
def f249.r7 : List IOper := [
 oz 4 (.mv oD)]
def f249.r8 : List IOper := [
 oz 25 (.bin .add (.t 13) oB),
 om 13 25]
def f249.l9 : IR := (.seq (.region f249.r4) (.seq (.cond (.t 14) .skip (.exit 0)) (.seq (.block 1 (.seq (.region f249.r5) (.seq (.draw f249.r6) (.cond (.t 24) (.seq (.region f249.r7) .ret) .skip)))) (.region f249.r8))))
def f249.r10 : List IOper := [
 oz 4 (.mv oC)]
def f249 : IFn := ⟨2, 26, [.t 4], (.seq (.region f249.r0) (.seq (.seq (.region f249.r1) (.cond (.t 10) (.seq (.region f249.r2) .ret) .skip)) (.seq (.seq (.region f249.r3) (.block 0 (.loop f249.l9))) (.seq (.region f249.r10) .ret))))⟩

end Fw.X
