/- Code of the program's functions, as operations of the abstract machine. -/
import Derived.Test.YtonjnjkdebpilaaGreatDoorFc
import Derived.Test.YtonjnjkdebpilaaGreatDoorProg
namespace Fw.X
open Go Go.Proofs
/-- the loops over functions of a code: how the loop's variables are assigned, and the body -/
abbrev oz (d : Nat) (o : IOp) : IOper := ⟨some d, o, none, []⟩
abbrev oy (o : IOp) : IOper := ⟨none, o, none, []⟩
abbrev og (d g : Nat) (b : Bool) (o : IOp) : IOper := ⟨some d, o, some (g, b), []⟩
abbrev oA : Opd := .c (.d (.int .i64 0))
abbrev oB : Opd := .c (.d (.int .i64 1))
abbrev oC : Opd := .c (.d (.bool true))
abbrev oD : Opd := .c (.d (.bool false))
abbrev oE : Opd := .c (.d (.str []))
abbrev oT : List V := [.d (.str []), .d (.str []), .nils]
abbrev om (d n : Nat) : IOper := ⟨some d, .mv (.t n), none, []⟩
abbrev oF (d a b n : Nat) : IOper := ⟨some d, .faddr a b (.t n), none, []⟩
abbrev oL (d a : Nat) (b : Bool) (n : Nat) : IOper := ⟨some d, .load a b (.t n), none, []⟩
abbrev oN (d n : Nat) : IOper := ⟨some d, .len .slice (.t n), none, []⟩
abbrev oX (d n k : Nat) : IOper := ⟨some d, .ext (.t n) k, none, []⟩
abbrev oI (d s a b : Nat) : IOper := ⟨some d, .iaddr s (.t a) (.t b), none, []⟩
abbrev oR (d f a : Nat) : IOper := ⟨some d, .call f [(.t a)], none, []⟩
abbrev oM (d g : Nat) (b : Bool) (n : Nat) : IOper := ⟨some d, .mv (.t n), some (g, b), []⟩
abbrev oG (d g : Nat) (b : Bool) (a : Nat) (c : Bool) (n : Nat) : IOper := ⟨some d, .load a c (.t n), some (g, b), []⟩
abbrev oH (d g : Nat) (b : Bool) (a c n : Nat) : IOper := ⟨some d, .faddr a c (.t n), some (g, b), []⟩
abbrev oV (d : Nat) (l : List Nat) (o : IOp) : IOper := ⟨some d, o, none, l⟩
abbrev oS : List V := [.d (.str []), .nils]
def f3.r0 : List IOper := [
  oz 2 (.box 2 (.t 0)),
  oz 3 (.box 5 (.t 1)),
  oz 4 (.mv oD)]
def f3.r1 : List IOper := [
  oz 5 (.call 4 []),
  oz 6 (.un .not (.t 5))]
def f3.r2 : List IOper := [
  oz 4 (.mv oD)]
def f3.r3 : List IOper := [
  oL 7 2 true 2,
  oz 8 (.call 5 [(.t 7), (.c (.d (.int .i64 14)))]),
  oz 9 (.un .not (.t 8)),
  om 10 9,
  oG 11 10 false 5 true 3,
  og 12 10 false (.call 6 [(.t 11)]),
  og 13 10 false (.un .not (.t 12)),
  oz 14 (.pick (.t 10) oC (.t 13))]
def f3.r4 : List IOper := [
  oz 4 (.mv oC)]
def f3.r5 : List IOper := [
  oL 15 2 true 2,
  oL 16 5 true 3,
  oV 17 [0, 1] (.call 7 [(.t 15), (.t 16)]),
  oL 18 2 true 2,
  oL 19 5 true 3,
  oV 20 [3, 4, 2] (.call 8 [(.t 18), (.t 19)]),
  oV 21 [2, 5] (.eq false .bool (.t 17) (.t 20)),
  oV 22 [6, 5] (.mv (.t 21)),
⟨some 23, .load 2 true (.t 2), some (22, true), [7]⟩,
⟨some 24, .load 5 true (.t 3), some (22, true), [7]⟩,
⟨some 25, .call 9 [(.t 23), (.t 24)], some (22, true), [8, 9, 7, 7]⟩,
⟨some 26, .load 2 true (.t 2), some (22, true), [7]⟩,
⟨some 27, .load 5 true (.t 3), some (22, true), [7]⟩,
⟨some 28, .call 10 [(.t 26), (.t 27)], some (22, true), [11, 12, 10, 7]⟩,
⟨some 29, .eq false .bool (.t 25) (.t 28), some (22, true), [10, 13, 7]⟩,
  oV 30 [7, 14] (.pick (.t 22) (.t 29) oD),
  oV 4 [15, 13, 0, 1, 2, 3, 4, 5, 6, 7, 8, 9, 10, 11, 12, 13, 14, 15] (.mv (.t 30))]
def f3 : IFn := ⟨2, 31, [.t 4], (.seq (.region f3.r0) (.seq (.seq (.region f3.r1) (.cond (.t 6) (.seq (.region f3.r2) .ret) .skip)) (.seq (.seq (.region f3.r3) (.cond (.t 14) (.seq (.region f3.r4) .ret) .skip)) (.seq (.draw f3.r5) .ret))))⟩
def f5.r0 : List IOper := [
  oz 2 (.box 2 (.t 0)),
  oz 4 (.mv oD)]
def f5.r1 : List IOper := [
  oz 5 (.mv oA)]
def f5.r2 : List IOper := [
  om 6 5,
  oF 7 1 1 2,
  oL 8 1 false 7,
  oN 9 8,
  oz 10 (.bin .lss (.t 6) (.t 9))]
def f5.r3 : List IOper := [
  oF 13 1 1 2,
  oL 14 1 false 13,
  om 15 5,
  oI 16 2 14 15,
  oF 17 0 1 16,
  oL 18 1 false 17,
  oz 19 (.len .str (.t 18)),
  oz 20 (.bin .gtr (.t 19) (.c (.d (.int .i64 40))))]
def f5.r4 : List IOper := [
  oz 4 (.mv oD)]
def f5.r5 : List IOper := [
  om 11 5,
  oz 12 (.bin .add (.t 11) oB),
  om 5 12]
def f5.l6 : IR := (.seq (.seq (.region f5.r2) (.cond (.t 10) .skip (.exit 0))) (.seq (.block 1 (.seq (.region f5.r3) (.cond (.t 20) (.seq (.region f5.r4) .ret) .skip))) (.region f5.r5)))
def f5.r7 : List IOper := [
  oF 21 1 1 2,
  oL 22 1 false 21,
  oN 23 22,
  om 24 1,
  oz 25 (.bin .leq (.t 23) (.t 24)),
  om 4 25]
def f5 : IFn := ⟨2, 26, [.t 4], (.seq (.region f5.r0) (.seq (.seq (.region f5.r1) (.block 0 (.loop f5.l6))) (.seq (.region f5.r7) .ret)))⟩
def f6.r0 : List IOper := [
  oz 1 (.box 5 (.t 0)),
  oz 2 (.mv oD)]
def f6.r1 : List IOper := [
  oL 6 5 true 1,
  oR 7 14 6,
  om 3 7]
def f6.r2 : List IOper := [
  oz 4 (.mv oA)]
def f6.r3 : List IOper := [
  om 8 4,
  om 9 3,
  oN 10 9,
  oz 11 (.bin .lss (.t 8) (.t 10))]
def f6.r4 : List IOper := [
  om 14 3,
  om 15 4,
  oI 16 3 14 15,
  oL 17 3 true 16,
  oR 18 15 17,
  oz 19 (.un .not (.t 18))]
def f6.r5 : List IOper := [
  oz 2 (.mv oD)]
def f6.r6 : List IOper := [
  om 12 4,
  oz 13 (.bin .add (.t 12) oB),
  om 4 13]
def f6.l7 : IR := (.seq (.seq (.region f6.r3) (.cond (.t 11) .skip (.exit 0))) (.seq (.block 1 (.seq (.region f6.r4) (.cond (.t 19) (.seq (.region f6.r5) .ret) .skip))) (.region f6.r6)))
def f6.r8 : List IOper := [
  oF 20 4 1 1,
  oL 21 1 false 20,
  oF 22 4 1 1,
  oL 23 1 false 22,
  oN 24 23,
  oz 25 (.minmax false [(.t 24), (.c (.d (.int .i64 8)))]),
  oz 26 (.lslice 2 (.t 21) none (some (.t 25))),
  oz 27 (.build oS [(1, 1, (.t 26))]),
  oR 28 16 27,
  om 5 28]
def f6.r9 : List IOper := [
  om 29 5,
  om 30 29,
  oH 31 30 true 0 1 1,
  oG 32 30 true 1 false 31,
  og 33 30 true (.len .slice (.t 32)),
  og 34 30 true (.bin .leq (.t 33) (.c (.d (.int .i64 13)))),
  oz 35 (.pick (.t 30) (.t 34) oD),
  om 36 35,
  oH 37 36 true 4 1 1,
  oG 38 36 true 1 false 37,
  og 39 36 true (.len .slice (.t 38)),
  og 40 36 true (.bin .leq (.t 39) (.c (.d (.int .i64 8)))),
  oM 41 36 true 40,
  oH 42 41 false 4 1 1,
  oG 43 41 false 1 false 42,
  og 44 41 false (.len .slice (.t 43)),
  og 45 41 false (.bin .eql (.t 44) (.c (.d (.int .i64 61)))),
  og 46 36 true (.pick (.t 41) oC (.t 45)),
  oz 47 (.pick (.t 36) (.t 46) oD),
  om 2 47]
def f6 : IFn := ⟨1, 48, [.t 2], (.seq (.region f6.r0) (.seq (.region f6.r1) (.seq (.seq (.region f6.r2) (.block 0 (.loop f6.l7))) (.seq (.region f6.r8) (.seq (.region f6.r9) .ret)))))⟩
def f7.r0 : List IOper := [
  oz 2 (.box 2 (.t 0)),
  oz 3 (.box 5 (.t 1)),
  oz 4 (.mv oD)]
def f7.r1 : List IOper := [
  oL 10 5 true 3,
  oR 11 17 10,
  oz 12 (.un .not (.t 11)),
  om 13 12,
  oG 14 13 false 2 true 2,
  og 15 13 false (.call 18 [(.t 14)]),
  og 16 13 false (.un .not (.t 15)),
  oz 17 (.pick (.t 13) oC (.t 16)),
  om 18 17,
  oH 19 18 false 0 1 2,
  oG 20 18 false 1 false 19,
  og 21 18 false (.bin .lss (.t 20) oA),
  oz 22 (.pick (.t 18) oC (.t 21))]
def f7.r2 : List IOper := [
  oz 4 (.mv oD)]
def f7.r3 : List IOper := [
  oz 23 (.mkmap),
  oz 5 (.alloc [.nilm]),
  oy (.store 1 (.t 5) (.t 23))]
def f7.r4 : List IOper := [
  oL 24 5 true 3,
  oR 25 19 24,
  oN 26 25,
  oz 27 (.mv oA)]
def f7.r5 : List IOper := [
  oz 28 (.bin .lss (.t 27) (.t 26))]
def f7.r6 : List IOper := [
  oI 29 3 25 27,
  oL 30 3 true 29,
  oz 7 (.alloc oT),
  oy (.store 3 (.t 7) (.t 30))]
def f7.r7 : List IOper := [
  oF 31 1 2 7,
  oF 32 1 1 31,
  oL 33 1 false 32,
  oN 34 33,
  oz 35 (.mv oA)]
def f7.r8 : List IOper := [
  oz 36 (.bin .lss (.t 35) (.t 34))]
def f7.r9 : List IOper := [
  oI 37 2 33 35,
  oL 38 2 true 37,
  oz 9 (.alloc [.d (.int .i64 0), .nils]),
  oy (.store 2 (.t 9) (.t 38))]
def f7.r10 : List IOper := [
  oF 39 1 1 9,
  oL 40 1 false 39,
  oN 41 40,
  oz 42 (.bin .eql (.t 41) oB),
  om 43 42,
  oH 44 43 true 1 1 9,
  oG 45 43 true 1 false 44,
  og 46 43 true (.iaddr 2 (.t 45) oA),
  oH 47 43 true 1 1 46,
  oG 48 43 true 1 false 47,
  og 49 43 true (.bin .eql (.t 48) oB),
  oz 50 (.pick (.t 43) (.t 49) oD),
  om 51 50,
  oH 52 51 true 0 1 9,
  oG 53 51 true 1 false 52,
  og 54 51 true (.bin .eql (.t 53) oA),
  oz 55 (.pick (.t 51) (.t 54) oD)]
def f7.r11 : List IOper := [
  oL 56 1 false 5,
  oF 57 1 1 9,
  oV 58 [1] (.load 1 false (.t 57)),
  oV 59 [2] (.iaddr 2 (.t 58) oA),
  oV 60 [3] (.faddr 0 1 (.t 59)),
  oV 61 [4] (.load 1 false (.t 60)),
⟨none, .mapUpd .str (.t 56) (.t 61) oC, none, [0, 5, 0, 1, 2, 3, 4, 5]⟩]
def f7.r12 : List IOper := [
  oz 62 (.bin .add (.t 35) oB),
  om 35 62]
def f7.l13 : IR := (.seq (.region f7.r8) (.seq (.cond (.t 36) .skip (.exit 2)) (.seq (.block 3 (.seq (.region f7.r9) (.seq (.region f7.r10) (.cond (.t 55) (.draw f7.r11) .skip)))) (.region f7.r12))))
def f7.r14 : List IOper := [
  oz 63 (.bin .add (.t 27) oB),
  om 27 63]
def f7.l15 : IR := (.seq (.region f7.r5) (.seq (.cond (.t 28) .skip (.exit 0)) (.seq (.block 1 (.seq (.region f7.r6) (.seq (.region f7.r7) (.block 2 (.loop f7.l13))))) (.region f7.r14))))
def f7.r16 : List IOper := [
  oF 64 1 1 2,
  oL 65 1 false 64,
  oz 66 (.mkfunc 21 [] [(.t 5)]),
  oz 67 (.call 20 [(.t 65), (.t 66)]),
  oz 68 (.un .not (.t 67)),
  om 4 68]
def f7 : IFn := ⟨2, 69, [.t 4], (.seq (.region f7.r0) (.seq (.seq (.region f7.r1) (.cond (.t 22) (.seq (.region f7.r2) .ret) .skip)) (.seq (.region f7.r3) (.seq (.seq (.region f7.r4) (.block 0 (.loop f7.l15))) (.seq (.region f7.r16) .ret)))))⟩
def f8.r0 : List IOper := [
  oz 2 (.box 2 (.t 0)),
  oz 3 (.box 5 (.t 1)),
  oz 4 (.mv oD)]
def f8.r1 : List IOper := [
  oL 9 2 true 2,
  oR 10 22 9,
  oz 11 (.un .not (.t 10)),
  om 12 11,
  oG 13 12 false 5 true 3,
  og 14 12 false (.call 23 [(.t 13)]),
  og 15 12 false (.un .not (.t 14)),
  oz 16 (.pick (.t 12) oC (.t 15)),
  om 17 16,
  oH 18 17 false 0 1 2,
  oG 19 17 false 1 false 18,
  og 20 17 false (.bin .lss (.t 19) oA),
  oz 21 (.pick (.t 17) oC (.t 20))]
def f8.r2 : List IOper := [
  oz 4 (.mv oD)]
def f8.r3 : List IOper := [
  oz 22 (.mkSlice 3 0 [] []),
  oF 23 0 1 3,
  oV 24 [1] (.load 1 false (.t 23)),
  oV 25 [0, 2] (.append 3 56 (.t 22) (.t 24)),
  oF 26 1 3 3,
  oV 27 [4] (.load 3 true (.t 26)),
  oV 28 [5] (.mkSlice 3 1 oT [(0, 3, (.t 27))]),
  oV 29 [3, 6, 3] (.append 3 56 (.t 25) (.t 28)),
  oV 30 [7, 7] (.call 24 [(.t 29)]),
  oV 5 [8, 8, 0, 1, 2, 3, 4, 5, 6, 7, 8] (.mv (.t 30))]
def f8.r4 : List IOper := [
  oz 6 (.mv oA)]
def f8.r5 : List IOper := [
  om 31 6,
  oF 32 1 1 2,
  oL 33 1 false 32,
  oN 34 33,
  oz 35 (.bin .lss (.t 31) (.t 34))]
def f8.r6 : List IOper := [
  oz 7 (.mv oD)]
def f8.r7 : List IOper := [
  oz 8 (.mv oA)]
def f8.r8 : List IOper := [
  om 38 8,
  om 39 5,
  oN 40 39,
  oz 41 (.bin .lss (.t 38) (.t 40))]
def f8.r9 : List IOper := [
  om 44 7,
  oV 45 [0] (.mv (.t 44)),
⟨some 46, .mv (.t 5), some (45, false), [1]⟩,
⟨some 47, .mv (.t 8), some (45, false), [1]⟩,
⟨some 48, .iaddr 2 (.t 46) (.t 47), some (45, false), [2, 3, 1]⟩,
⟨some 49, .load 2 true (.t 48), some (45, false), [4, 1]⟩,
⟨some 50, .faddr 1 1 (.t 2), some (45, false), [1]⟩,
⟨some 51, .load 1 false (.t 50), some (45, false), [6, 1]⟩,
⟨some 52, .mv (.t 6), some (45, false), [1]⟩,
⟨some 53, .iaddr 2 (.t 51) (.t 52), some (45, false), [7, 8, 1]⟩,
⟨some 54, .faddr 0 1 (.t 53), some (45, false), [9, 1]⟩,
⟨some 55, .load 1 false (.t 54), some (45, false), [10, 1]⟩,
⟨some 56, .call 26 [(.t 55)], some (45, false), [11, 1, 1]⟩,
⟨some 57, .call 25 [(.t 49), (.t 56)], some (45, false), [5, 12, 12, 1]⟩,
  oV 58 [1, 13] (.pick (.t 45) oC (.t 57)),
  oV 7 [14, 13, 0, 1, 2, 3, 4, 5, 6, 7, 8, 9, 10, 11, 12, 13, 14] (.mv (.t 58))]
def f8.r10 : List IOper := [
  om 42 8,
  oz 43 (.bin .add (.t 42) oB),
  om 8 43]
def f8.l11 : IR := (.seq (.seq (.region f8.r8) (.cond (.t 41) .skip (.exit 2))) (.seq (.block 3 (.draw f8.r9)) (.region f8.r10)))
def f8.r12 : List IOper := [
  oF 59 1 1 2,
  oL 60 1 false 59,
  om 61 6,
  oI 62 2 60 61,
  oF 63 1 1 62,
  oL 64 1 false 63,
  oz 65 (.bin .lss (.t 64) oA),
  om 66 65,
  oM 67 66 false 7,
  og 68 66 false (.un .not (.t 67)),
  oz 69 (.pick (.t 66) oC (.t 68))]
def f8.r13 : List IOper := [
  oz 4 (.mv oD)]
def f8.r14 : List IOper := [
  om 36 6,
  oz 37 (.bin .add (.t 36) oB),
  om 6 37]
def f8.l15 : IR := (.seq (.seq (.region f8.r5) (.cond (.t 35) .skip (.exit 0))) (.seq (.block 1 (.seq (.region f8.r6) (.seq (.seq (.region f8.r7) (.block 2 (.loop f8.l11))) (.seq (.region f8.r12) (.cond (.t 69) (.seq (.region f8.r13) .ret) .skip))))) (.region f8.r14)))
def f8.r16 : List IOper := [
  oz 4 (.mv oC)]
def f8 : IFn := ⟨2, 70, [.t 4], (.seq (.region f8.r0) (.seq (.seq (.region f8.r1) (.cond (.t 21) (.seq (.region f8.r2) .ret) .skip)) (.seq (.draw f8.r3) (.seq (.seq (.region f8.r4) (.block 0 (.loop f8.l15))) (.seq (.region f8.r16) .ret)))))⟩
def f9.r0 : List IOper := [
  oz 2 (.box 2 (.t 0)),
  oz 3 (.box 5 (.t 1)),
  oz 4 (.mv oD)]
def f9.r1 : List IOper := [
  oz 6 (.mkfunc 27 [] [(.t 2)]),
  om 5 6]
def f9.r2 : List IOper := [
  oL 7 5 true 3,
  oR 8 17 7,
  om 9 8,
  oG 10 9 true 2 true 2,
  oG 11 9 true 5 true 3,
  og 12 9 true (.call 7 [(.t 10), (.t 11)]),
  oM 13 9 true 12,
  oH 14 13 false 4 1 3,
  oG 15 13 false 1 false 14,
  oM 16 13 false 5,
  og 17 13 false (.call 29 [(.t 15), (.t 16)]),
  og 18 9 true (.pick (.t 13) oC (.t 17)),
  oz 19 (.pick (.t 9) (.t 18) oD),
  om 4 19]
def f9 : IFn := ⟨2, 20, [.t 4], (.seq (.region f9.r0) (.seq (.region f9.r1) (.seq (.region f9.r2) .ret)))⟩
def f10.r0 : List IOper := [
  oz 2 (.box 2 (.t 0)),
  oz 3 (.box 5 (.t 1)),
  oz 4 (.mv oD)]
def f10.r1 : List IOper := [
  oL 6 5 true 3,
  oR 7 23 6,
  oz 8 (.un .not (.t 7))]
def f10.r2 : List IOper := [
  oz 4 (.mv oD)]
def f10.r3 : List IOper := [
  oz 5 (.mv oA)]
def f10.r4 : List IOper := [
  om 9 5,
  oF 10 4 1 3,
  oL 11 1 false 10,
  oN 12 11,
  oz 13 (.bin .lss (.t 9) (.t 12))]
def f10.r5 : List IOper := [
  oF 16 4 1 3,
  oV 17 [0] (.load 1 false (.t 16)),
  om 18 5,
  oV 19 [1, 2] (.iaddr 2 (.t 17) (.t 18)),
  oV 20 [3] (.load 2 true (.t 19)),
  oL 21 2 true 2,
  oV 22 [4, 5] (.call 25 [(.t 20), (.t 21)])]
def f10.r6 : List IOper := [
  oz 4 (.mv oC)]
def f10.r7 : List IOper := [
  om 14 5,
  oz 15 (.bin .add (.t 14) oB),
  om 5 15]
def f10.l8 : IR := (.seq (.seq (.region f10.r4) (.cond (.t 13) .skip (.exit 0))) (.seq (.block 1 (.seq (.draw f10.r5) (.cond (.t 22) (.seq (.region f10.r6) .ret) .skip))) (.region f10.r7)))
def f10.r9 : List IOper := [
  oL 23 2 true 2,
  oL 24 5 true 3,
  oz 25 (.call 8 [(.t 23), (.t 24)]),
  om 4 25]
def f10 : IFn := ⟨2, 26, [.t 4], (.seq (.region f10.r0) (.seq (.seq (.region f10.r1) (.cond (.t 8) (.seq (.region f10.r2) .ret) .skip)) (.seq (.seq (.region f10.r3) (.block 0 (.loop f10.l8))) (.seq (.region f10.r9) .ret))))⟩
def f14.r0 : List IOper := [
  oz 1 (.box 5 (.t 0)),
  oz 2 (.mv (.c (.nils)))]
def f14.r1 : List IOper := [
  oz 3 (.mkSlice 3 0 [] []),
  oF 4 0 1 1,
  oV 5 [1] (.load 1 false (.t 4)),
  oV 6 [0, 2] (.append 3 56 (.t 3) (.t 5)),
  oF 7 1 3 1,
  oV 8 [4] (.load 3 true (.t 7)),
  oV 9 [5] (.mkSlice 3 1 oT [(0, 3, (.t 8))]),
  oV 10 [3, 6, 3] (.append 3 56 (.t 6) (.t 9)),
  oV 2 [7, 7, 0, 1, 2, 3, 4, 5, 6, 7] (.mv (.t 10))]
def f14 : IFn := ⟨1, 11, [.t 2], (.seq (.region f14.r0) (.seq (.draw f14.r1) .ret))⟩
def f15.r0 : List IOper := [
  oz 1 (.box 3 (.t 0)),
  oz 2 (.mv oD)]
def f15.r1 : List IOper := [
  oF 3 0 1 1,
  oL 4 1 false 3,
  oz 5 (.len .str (.t 4)),
  oz 6 (.bin .leq (.t 5) (.c (.d (.int .i64 35)))),
  om 7 6,
  oH 8 7 true 1 2 1,
  oG 9 7 true 2 true 8,
  og 10 7 true (.call 16 [(.t 9)]),
  oz 11 (.pick (.t 7) (.t 10) oD),
  om 2 11]
def f15 : IFn := ⟨1, 12, [.t 2], (.seq (.region f15.r0) (.seq (.region f15.r1) .ret))⟩
def f16.r0 : List IOper := [
  oz 1 (.box 2 (.t 0)),
  oz 2 (.mv oD)]
def f16.r1 : List IOper := [
  oz 3 (.mv oA)]
def f16.r2 : List IOper := [
  om 4 3,
  oF 5 1 1 1,
  oL 6 1 false 5,
  oN 7 6,
  oz 8 (.bin .lss (.t 4) (.t 7))]
def f16.r3 : List IOper := [
  oF 11 1 1 1,
  oL 12 1 false 11,
  om 13 3,
  oI 14 2 12 13,
  oL 15 2 true 14,
  oR 16 38 15,
  oz 17 (.un .not (.t 16))]
def f16.r4 : List IOper := [
  oz 2 (.mv oD)]
def f16.r5 : List IOper := [
  om 9 3,
  oz 10 (.bin .add (.t 9) oB),
  om 3 10]
def f16.l6 : IR := (.seq (.seq (.region f16.r2) (.cond (.t 8) .skip (.exit 0))) (.seq (.block 1 (.seq (.region f16.r3) (.cond (.t 17) (.seq (.region f16.r4) .ret) .skip))) (.region f16.r5)))
def f16.r7 : List IOper := [
  oF 18 1 1 1,
  oL 19 1 false 18,
  oN 20 19,
  oz 21 (.bin .leq (.t 20) (.c (.d (.int .i64 8)))),
  om 22 21,
  oH 23 22 true 0 1 1,
  oG 24 22 true 1 false 23,
  og 25 22 true (.len .str (.t 24)),
  og 26 22 true (.bin .leq (.t 25) (.c (.d (.int .i64 35)))),
  oz 27 (.pick (.t 22) (.t 26) oD),
  om 2 27]
def f16 : IFn := ⟨1, 28, [.t 2], (.seq (.region f16.r0) (.seq (.seq (.region f16.r1) (.block 0 (.loop f16.l6))) (.seq (.region f16.r7) .ret)))⟩
def f17.r0 : List IOper := [
  oz 1 (.box 5 (.t 0)),
  oz 2 (.mv oD)]
def f17.r1 : List IOper := [
  oz 3 (.mv (.f 39))]
def f17.r2 : List IOper := [
  oF 4 0 1 1,
  oL 5 1 false 4,
  oN 6 5,
  oz 7 (.bin .leq (.t 6) (.c (.d (.int .i64 12)))),
  om 8 7,
  oH 9 8 true 4 1 1,
  oG 10 8 true 1 false 9,
  og 11 8 true (.len .slice (.t 10)),
  og 12 8 true (.bin .leq (.t 11) (.c (.d (.int .i64 60)))),
  oz 13 (.pick (.t 8) (.t 12) oD),
  om 14 13,
  oH 15 14 true 0 1 1,
  oG 16 14 true 1 false 15,
  oM 17 14 true 3,
  og 18 14 true (.call 41 [(.t 16), (.t 17)]),
  og 19 14 true (.un .not (.t 18)),
  oz 20 (.pick (.t 14) (.t 19) oD),
  om 21 20,
  oH 22 21 true 1 3 1,
  oG 23 21 true 3 true 22,
  og 24 21 true (.call 40 [(.t 23)]),
  oz 25 (.pick (.t 21) (.t 24) oD),
  om 26 25,
  oH 27 26 true 4 1 1,
  oG 28 26 true 1 false 27,
  og 29 26 true (.call 29 [(.t 28), (.f 42)]),
  og 30 26 true (.un .not (.t 29)),
  oz 31 (.pick (.t 26) (.t 30) oD),
  om 2 31]
def f17 : IFn := ⟨1, 32, [.t 2], (.seq (.region f17.r0) (.seq (.region f17.r1) (.seq (.region f17.r2) .ret)))⟩
def f18.r0 : List IOper := [
  oz 1 (.box 2 (.t 0)),
  oz 2 (.mv oD)]
def f18.r1 : List IOper := [
  oF 5 1 1 1,
  oL 6 1 false 5,
  oN 7 6,
  oz 8 (.mv oA)]
def f18.r2 : List IOper := [
  oz 9 (.bin .lss (.t 8) (.t 7))]
def f18.r3 : List IOper := [
  om 10 8,
  oI 11 2 6 8,
  oL 12 2 true 11,
  oz 4 (.alloc [.d (.str []), .d (.int .i64 0)]),
  om 3 10,
  oy (.store 2 (.t 4) (.t 12))]
def f18.r4 : List IOper := [
  oF 13 0 1 4,
  oV 14 [0] (.load 1 false (.t 13)),
  oV 15 [1] (.call 43 [(.t 14)]),
  oV 16 [2] (.un .not (.t 15)),
  oV 17 [3, 2] (.mv (.t 16)),
⟨some 18, .faddr 1 1 (.t 4), some (17, false), [4]⟩,
⟨some 19, .load 1 false (.t 18), some (17, false), [5, 4]⟩,
⟨some 20, .bin .eql (.t 19) oA, some (17, false), [6, 4]⟩,
  oV 21 [4, 7] (.pick (.t 17) oC (.t 20)),
  oV 22 [8, 4] (.mv (.t 21)),
⟨some 23, .faddr 1 1 (.t 4), some (22, false), [9]⟩,
⟨some 24, .load 1 false (.t 23), some (22, false), [10, 9]⟩,
⟨some 25, .call 44 [(.t 24)], some (22, false), [11, 9, 9]⟩,
⟨some 26, .un .not (.t 25), some (22, false), [12, 9]⟩,
  oV 27 [9, 13] (.pick (.t 22) oC (.t 26)),
  oV 28 [14, 12] (.mv (.t 27)),
⟨some 29, .mv (.t 3), some (28, false), [15]⟩,
⟨some 30, .bin .gtr (.t 29) oA, some (28, false), [16, 15]⟩,
⟨some 31, .mv (.t 30), some (28, false), [17, 15, 15]⟩,
⟨some 32, .faddr 1 1 (.t 1), some (31, true), [18]⟩,
⟨some 33, .load 1 false (.t 32), some (31, true), [19, 18]⟩,
⟨some 34, .mv (.t 3), some (31, true), [18]⟩,
⟨some 35, .bin .sub (.t 34) oB, some (31, true), [21, 18]⟩,
⟨some 36, .iaddr 2 (.t 33) (.t 35), some (31, true), [20, 22, 18]⟩,
⟨some 37, .faddr 0 1 (.t 36), some (31, true), [23, 18]⟩,
⟨some 38, .load 1 false (.t 37), some (31, true), [24, 18]⟩,
⟨some 39, .faddr 0 1 (.t 4), some (31, true), [18]⟩,
⟨some 40, .load 1 false (.t 39), some (31, true), [26, 18]⟩,
⟨some 41, .bin .geq (.t 38) (.t 40), some (31, true), [25, 27, 18]⟩,
⟨some 42, .pick (.t 31) (.t 41) oD, some (28, false), [18, 28, 15]⟩,
  oV 43 [15, 29] (.pick (.t 28) oC (.t 42))]
def f18.r5 : List IOper := [
  oz 2 (.mv oD)]
def f18.r6 : List IOper := [
  oz 44 (.bin .add (.t 8) oB),
  om 8 44]
def f18.l7 : IR := (.seq (.region f18.r2) (.seq (.cond (.t 9) .skip (.exit 0)) (.seq (.block 1 (.seq (.region f18.r3) (.seq (.draw f18.r4) (.cond (.t 43) (.seq (.region f18.r5) .ret) .skip)))) (.region f18.r6))))
def f18.r8 : List IOper := [
  oF 45 0 1 1,
  oL 46 1 false 45,
  oR 47 44 46,
  om 48 47,
  oH 49 48 true 1 1 1,
  oG 50 48 true 1 false 49,
  og 51 48 true (.len .slice (.t 50)),
  og 52 48 true (.bin .leq (.t 51) (.c (.d (.int .i64 12)))),
  oz 53 (.pick (.t 48) (.t 52) oD),
  om 2 53]
def f18 : IFn := ⟨1, 54, [.t 2], (.seq (.region f18.r0) (.seq (.seq (.region f18.r1) (.block 0 (.loop f18.l7))) (.seq (.region f18.r8) .ret)))⟩
def f19.r0 : List IOper := [
  oz 1 (.box 5 (.t 0)),
  oz 2 (.mv (.c (.nils)))]
def f19.r1 : List IOper := [
  oF 3 0 1 1,
  oV 4 [0] (.load 1 false (.t 3)),
  oV 5 [1] (.call 45 [(.t 4)]),
  oF 6 1 3 1,
  oV 7 [3] (.load 3 true (.t 6)),
  oV 8 [4] (.mkSlice 3 1 oT [(0, 3, (.t 7))]),
  oV 9 [2, 5, 2] (.append 3 56 (.t 5) (.t 8)),
  oV 2 [6, 6, 0, 1, 2, 3, 4, 5, 6] (.mv (.t 9))]
def f19 : IFn := ⟨1, 10, [.t 2], (.seq (.region f19.r0) (.seq (.draw f19.r1) .ret))⟩
def f20.r0 : List IOper := [
  oz 4 (.mv oD)]
def f20.r1 : List IOper := [
  om 5 0,
  om 6 1,
  oz 7 (.call 46 [(.t 5), (.t 6)]),
  oz 8 (.bin .geq (.t 7) oA),
  om 4 8]
def f20 : IFn := ⟨2, 9, [.t 4], (.seq (.region f20.r0) (.seq (.region f20.r1) .ret))⟩
def f21.r0 : List IOper := [
  oz 2 (.box 2 (.t 0)),
  oz 3 (.mv oD)]
def f21.r1 : List IOper := [
  oF 4 1 1 2,
  oL 5 1 false 4,
  oz 6 (.bin .lss (.t 5) oA),
  om 7 6,
  oG 8 7 false 1 false 1,
  oH 9 7 false 0 1 2,
  oG 10 7 false 1 false 9,
  og 11 7 false (.lookup .str (.d (.bool false)) false (.t 8) (.t 10)),
  og 12 7 false (.un .not (.t 11)),
  oz 13 (.pick (.t 7) oC (.t 12)),
  om 3 13]
def f21 : IFn := ⟨2, 14, [.t 3], (.seq (.region f21.r0) (.seq (.region f21.r1) .ret))⟩
def f22.r0 : List IOper := [
  oz 1 (.box 2 (.t 0)),
  oz 2 (.mv oD)]
def f22.r1 : List IOper := [
  oF 5 0 1 1,
  oL 6 1 false 5,
  oR 7 47 6,
  oz 8 (.un .not (.t 7)),
  om 9 8,
  oH 10 9 false 1 1 1,
  oG 11 9 false 1 false 10,
  og 12 9 false (.len .slice (.t 11)),
  og 13 9 false (.bin .gtr (.t 12) (.c (.d (.int .i64 12)))),
  oz 14 (.pick (.t 9) oC (.t 13))]
def f22.r2 : List IOper := [
  oz 2 (.mv oD)]
def f22.r3 : List IOper := [
  oz 3 (.mv oA)]
def f22.r4 : List IOper := [
  om 15 3,
  oF 16 1 1 1,
  oL 17 1 false 16,
  oN 18 17,
  oz 19 (.bin .lss (.t 15) (.t 18))]
def f22.r5 : List IOper := [
  oF 22 1 1 1,
  oL 23 1 false 22,
  om 24 3,
  oI 25 2 23 24,
  oL 26 2 true 25,
  oz 4 (.alloc [.d (.str []), .d (.int .i64 0)]),
  oy (.store 2 (.t 4) (.t 26))]
def f22.r6 : List IOper := [
  oF 27 0 1 4,
  oV 28 [0] (.load 1 false (.t 27)),
  oV 29 [1] (.call 48 [(.t 28)]),
  oV 30 [2] (.un .not (.t 29)),
  oV 31 [3, 2] (.mv (.t 30)),
⟨some 32, .faddr 1 1 (.t 4), some (31, false), [4]⟩,
⟨some 33, .load 1 false (.t 32), some (31, false), [5, 4]⟩,
⟨some 34, .bin .eql (.t 33) oA, some (31, false), [6, 4]⟩,
  oV 35 [4, 7] (.pick (.t 31) oC (.t 34)),
  oV 36 [8, 4] (.mv (.t 35)),
⟨some 37, .faddr 1 1 (.t 4), some (36, false), [9]⟩,
⟨some 38, .load 1 false (.t 37), some (36, false), [10, 9]⟩,
⟨some 39, .call 47 [(.t 38)], some (36, false), [11, 9, 9]⟩,
⟨some 40, .un .not (.t 39), some (36, false), [12, 9]⟩,
  oV 41 [9, 13] (.pick (.t 36) oC (.t 40)),
  oV 42 [14, 12] (.mv (.t 41)),
⟨some 43, .mv (.t 3), some (42, false), [15]⟩,
⟨some 44, .bin .gtr (.t 43) oA, some (42, false), [16, 15]⟩,
⟨some 45, .mv (.t 44), some (42, false), [17, 15, 15]⟩,
⟨some 46, .faddr 1 1 (.t 1), some (45, true), [18]⟩,
⟨some 47, .load 1 false (.t 46), some (45, true), [19, 18]⟩,
⟨some 48, .mv (.t 3), some (45, true), [18]⟩,
⟨some 49, .bin .sub (.t 48) oB, some (45, true), [21, 18]⟩,
⟨some 50, .iaddr 2 (.t 47) (.t 49), some (45, true), [20, 22, 18]⟩,
⟨some 51, .faddr 0 1 (.t 50), some (45, true), [23, 18]⟩,
⟨some 52, .load 1 false (.t 51), some (45, true), [24, 18]⟩,
⟨some 53, .faddr 0 1 (.t 4), some (45, true), [18]⟩,
⟨some 54, .load 1 false (.t 53), some (45, true), [26, 18]⟩,
⟨some 55, .bin .geq (.t 52) (.t 54), some (45, true), [25, 27, 18]⟩,
⟨some 56, .pick (.t 45) (.t 55) oD, some (42, false), [18, 28, 15]⟩,
  oV 57 [15, 29] (.pick (.t 42) oC (.t 56))]
def f22.r7 : List IOper := [
  oz 2 (.mv oD)]
def f22.r8 : List IOper := [
  om 20 3,
  oz 21 (.bin .add (.t 20) oB),
  om 3 21]
def f22.l9 : IR := (.seq (.seq (.region f22.r4) (.cond (.t 19) .skip (.exit 0))) (.seq (.block 1 (.seq (.region f22.r5) (.seq (.draw f22.r6) (.cond (.t 57) (.seq (.region f22.r7) .ret) .skip)))) (.region f22.r8)))
def f22.r10 : List IOper := [
  oz 2 (.mv oC)]
def f22 : IFn := ⟨1, 58, [.t 2], (.seq (.region f22.r0) (.seq (.seq (.region f22.r1) (.cond (.t 14) (.seq (.region f22.r2) .ret) .skip)) (.seq (.seq (.region f22.r3) (.block 0 (.loop f22.l9))) (.seq (.region f22.r10) .ret))))⟩
def f23.r0 : List IOper := [
  oz 1 (.box 5 (.t 0)),
  oz 2 (.mv oD)]
def f23.r1 : List IOper := [
  oL 6 5 true 1,
  oR 7 14 6,
  om 3 7]
def f23.r2 : List IOper := [
  oz 4 (.mv oA)]
def f23.r3 : List IOper := [
  om 8 4,
  om 9 3,
  oN 10 9,
  oz 11 (.bin .lss (.t 8) (.t 10))]
def f23.r4 : List IOper := [
  om 14 3,
  om 15 4,
  oI 16 3 14 15,
  oL 17 3 true 16,
  oR 18 49 17,
  oz 19 (.un .not (.t 18))]
def f23.r5 : List IOper := [
  oz 2 (.mv oD)]
def f23.r6 : List IOper := [
  om 12 4,
  oz 13 (.bin .add (.t 12) oB),
  om 4 13]
def f23.l7 : IR := (.seq (.seq (.region f23.r3) (.cond (.t 11) .skip (.exit 0))) (.seq (.block 1 (.seq (.region f23.r4) (.cond (.t 19) (.seq (.region f23.r5) .ret) .skip))) (.region f23.r6)))
def f23.r8 : List IOper := [
  oz 5 (.mv oA)]
def f23.r9 : List IOper := [
  om 20 5,
  oF 21 4 1 1,
  oL 22 1 false 21,
  oN 23 22,
  oz 24 (.bin .lss (.t 20) (.t 23))]
def f23.r10 : List IOper := [
  oF 27 4 1 1,
  oL 28 1 false 27,
  om 29 5,
  oI 30 2 28 29,
  oL 31 2 true 30,
  oR 32 22 31,
  oz 33 (.un .not (.t 32))]
def f23.r11 : List IOper := [
  oz 2 (.mv oD)]
def f23.r12 : List IOper := [
  om 25 5,
  oz 26 (.bin .add (.t 25) oB),
  om 5 26]
def f23.l13 : IR := (.seq (.seq (.region f23.r9) (.cond (.t 24) .skip (.exit 2))) (.seq (.block 3 (.seq (.region f23.r10) (.cond (.t 33) (.seq (.region f23.r11) .ret) .skip))) (.region f23.r12)))
def f23.r14 : List IOper := [
  oF 34 0 1 1,
  oL 35 1 false 34,
  oN 36 35,
  oz 37 (.bin .leq (.t 36) (.c (.d (.int .i64 12)))),
  om 38 37,
  oH 39 38 true 4 1 1,
  oG 40 38 true 1 false 39,
  og 41 38 true (.len .slice (.t 40)),
  og 42 38 true (.bin .leq (.t 41) (.c (.d (.int .i64 60)))),
  oz 43 (.pick (.t 38) (.t 42) oD),
  om 2 43]
def f23 : IFn := ⟨1, 44, [.t 2], (.seq (.region f23.r0) (.seq (.region f23.r1) (.seq (.seq (.region f23.r2) (.block 0 (.loop f23.l7))) (.seq (.seq (.region f23.r8) (.block 2 (.loop f23.l13))) (.seq (.region f23.r14) .ret)))))⟩
def f24.r0 : List IOper := [
  oz 2 (.mv (.c (.nils)))]
def f24.r1 : List IOper := [
  oz 3 (.mv (.c (.nils)))]
def f24.r2 : List IOper := [
  oz 4 (.mv oA)]
def f24.r3 : List IOper := [
  om 5 4,
  om 6 0,
  oN 7 6,
  oz 8 (.bin .lss (.t 5) (.t 7))]
def f24.r4 : List IOper := [
  om 11 3,
  om 12 0,
  om 13 4,
  oI 14 3 12 13,
  oF 15 1 2 14,
  oF 16 1 1 15,
  oL 17 1 false 16,
  oz 18 (.append 2 32 (.t 11) (.t 17)),
  om 3 18]
def f24.r5 : List IOper := [
  om 9 4,
  oz 10 (.bin .add (.t 9) oB),
  om 4 10]
def f24.l6 : IR := (.seq (.seq (.region f24.r3) (.cond (.t 8) .skip (.exit 0))) (.seq (.block 1 (.region f24.r4)) (.region f24.r5)))
def f24.r7 : List IOper := [
  om 19 3,
  om 2 19]
def f24 : IFn := ⟨1, 20, [.t 2], (.seq (.region f24.r0) (.seq (.region f24.r1) (.seq (.seq (.region f24.r2) (.block 0 (.loop f24.l6))) (.seq (.region f24.r7) .ret))))⟩
def f25.r0 : List IOper := [
  oz 2 (.box 2 (.t 0)),
  oz 3 (.box 2 (.t 1)),
  oz 4 (.mv oD)]
def f25.r1 : List IOper := [
  oL 5 2 true 2,
  oL 6 2 true 3,
  oz 7 (.call 50 [(.t 5), (.t 6)]),
  oz 8 (.bin .eql (.t 7) oA),
  om 4 8]
def f25 : IFn := ⟨2, 9, [.t 4], (.seq (.region f25.r0) (.seq (.region f25.r1) .ret))⟩
def f26.r0 : List IOper := [
  oz 2 (.alloc [.d (.int .i64 0), .nils])]
def f26.r1 : List IOper := [
  om 3 0,
  oz 4 (.build [.d (.str []), .d (.int .i64 0)] [(0, 1, (.t 3)), (1, 1, oB)]),
  oz 5 (.mkSlice 2 1 [.d (.str []), .d (.int .i64 0)] [(0, 2, (.t 4))]),
  oz 6 (.build [.d (.int .i64 0), .nils] [(1, 1, (.t 5))]),
  oy (.store 2 (.t 2) (.t 6))]
def f26 : IFn := ⟨1, 7, [.cell 2 2 true], (.seq (.region f26.r0) (.seq (.region f26.r1) .ret))⟩
def f27.r0 : List IOper := [
  oz 2 (.box 2 (.t 0)),
  oz 3 (.mv oD)]
def f27.r1 : List IOper := [
  oL 4 2 true 2,
  oL 5 2 true 1,
  oz 6 (.call 28 [(.t 4), (.t 5)]),
  om 3 6]
def f27 : IFn := ⟨2, 7, [.t 3], (.seq (.region f27.r0) (.seq (.region f27.r1) .ret))⟩
def f28.r0 : List IOper := [
  oz 2 (.box 2 (.t 0)),
  oz 3 (.box 2 (.t 1)),
  oz 4 (.mv oD)]
def f28.r1 : List IOper := [
  oL 5 2 true 2,
  oL 6 2 true 3,
  oz 7 (.call 51 [(.t 5), (.t 6)]),
  oz 8 (.bin .eql (.t 7) oA),
  om 4 8]
def f28 : IFn := ⟨2, 9, [.t 4], (.seq (.region f28.r0) (.seq (.region f28.r1) .ret))⟩
def f29.r0 : List IOper := [
  oz 4 (.mv oD)]
def f29.r1 : List IOper := [
  om 5 0,
  om 6 1,
  oz 7 (.call 52 [(.t 5), (.t 6)]),
  oz 8 (.bin .geq (.t 7) oA),
  om 4 8]
def f29 : IFn := ⟨2, 9, [.t 4], (.seq (.region f29.r0) (.seq (.region f29.r1) .ret))⟩
def f38.r0 : List IOper := [
  oz 1 (.box 2 (.t 0)),
  oz 2 (.mv oD)]
def f38.r1 : List IOper := [
  oz 3 (.mv oA)]
def f38.r2 : List IOper := [
  om 4 3,
  oF 5 1 1 1,
  oL 6 1 false 5,
  oN 7 6,
  oz 8 (.bin .lss (.t 4) (.t 7))]
def f38.r3 : List IOper := [
  oF 11 1 1 1,
  oL 12 1 false 11,
  om 13 3,
  oI 14 2 12 13,
  oF 15 0 1 14,
  oL 16 1 false 15,
  oz 17 (.len .str (.t 16)),
  oz 18 (.bin .gtr (.t 17) (.c (.d (.int .i64 35))))]
def f38.r4 : List IOper := [
  oz 2 (.mv oD)]
def f38.r5 : List IOper := [
  om 9 3,
  oz 10 (.bin .add (.t 9) oB),
  om 3 10]
def f38.l6 : IR := (.seq (.seq (.region f38.r2) (.cond (.t 8) .skip (.exit 0))) (.seq (.block 1 (.seq (.region f38.r3) (.cond (.t 18) (.seq (.region f38.r4) .ret) .skip))) (.region f38.r5)))
def f38.r7 : List IOper := [
  oF 19 1 1 1,
  oL 20 1 false 19,
  oN 21 20,
  oz 22 (.bin .leq (.t 21) (.c (.d (.int .i64 14)))),
  om 2 22]
def f38 : IFn := ⟨1, 23, [.t 2], (.seq (.region f38.r0) (.seq (.seq (.region f38.r1) (.block 0 (.loop f38.l6))) (.seq (.region f38.r7) .ret)))⟩
def f39.r0 : List IOper := [
  oz 1 (.box 3 (.t 0)),
  oz 2 (.mv oD)]
def f39.r1 : List IOper := [
  oL 3 3 true 1,
  oR 4 40 3,
  oz 5 (.un .not (.t 4)),
  om 2 5]
def f39 : IFn := ⟨1, 6, [.t 2], (.seq (.region f39.r0) (.seq (.region f39.r1) .ret))⟩
def f40.r0 : List IOper := [
  oz 1 (.box 3 (.t 0)),
  oz 2 (.mv oD)]
def f40.r1 : List IOper := [
  oF 3 0 1 1,
  oL 4 1 false 3,
  oz 5 (.bin .eql (.t 4) (.c (.d (.str [105, 110, 116])))),
  om 6 5,
  oH 7 6 false 0 1 1,
  oG 8 6 false 1 false 7,
  og 9 6 false (.bin .eql (.t 8) (.c (.d (.str [98, 111, 111, 108])))),
  oz 10 (.pick (.t 6) oC (.t 9)),
  om 11 10,
  oH 12 11 false 0 1 1,
  oG 13 11 false 1 false 12,
  og 14 11 false (.call 74 [(.t 13)]),
  oz 15 (.pick (.t 11) oC (.t 14)),
  om 16 15,
  oH 17 16 true 1 2 1,
  oG 18 16 true 2 true 17,
  og 19 16 true (.call 75 [(.t 18)]),
  oz 20 (.pick (.t 16) (.t 19) oD),
  om 2 20]
def f40 : IFn := ⟨1, 21, [.t 2], (.seq (.region f40.r0) (.seq (.region f40.r1) .ret))⟩
def f41.r0 : List IOper := [
  oz 4 (.mv oD)]
def f41.r1 : List IOper := [
  om 5 0,
  om 6 1,
  oz 7 (.call 76 [(.t 5), (.t 6)]),
  oz 8 (.bin .geq (.t 7) oA),
  om 4 8]
def f41 : IFn := ⟨2, 9, [.t 4], (.seq (.region f41.r0) (.seq (.region f41.r1) .ret))⟩
def f42.r0 : List IOper := [
  oz 1 (.box 2 (.t 0)),
  oz 2 (.mv oD)]
def f42.r1 : List IOper := [
  oL 3 2 true 1,
  oR 4 18 3,
  oz 5 (.un .not (.t 4)),
  om 2 5]
def f42 : IFn := ⟨1, 6, [.t 2], (.seq (.region f42.r0) (.seq (.region f42.r1) .ret))⟩
def f43.r0 : List IOper := [
  oz 2 (.mv oD)]
def f43.r1 : List IOper := [
  om 7 0,
  oz 8 (.call 77 [(.t 7), (.c (.d (.str [95])))])]
def f43.r2 : List IOper := [
  om 10 0,
  oz 11 (.sslice (.t 10) (some oB) none),
  oR 12 78 11,
  om 9 12,
  oX 13 9 0,
  oX 14 9 1,
  om 3 13,
  om 4 14]
def f43.r3 : List IOper := [
  om 15 4,
  oV 16 [0] (.eq false .iface (.t 15) (.c (.nili))),
  oV 17 [1] (.mv (.t 16)),
⟨some 18, .mv (.t 3), some (17, true), [2]⟩,
⟨some 19, .bin .gtr (.t 18) oA, some (17, true), [3, 2]⟩,
  oV 20 [2, 4] (.pick (.t 17) (.t 19) oD),
  oV 21 [5, 2] (.mv (.t 20)),
⟨some 22, .mv (.t 0), some (21, true), [6]⟩,
⟨some 23, .len .str (.t 22), some (21, true), [7, 6]⟩,
⟨some 24, .bin .leq (.t 23) (.c (.d (.int .i64 10))), some (21, true), [8, 6]⟩,
  oV 25 [6, 9] (.pick (.t 21) (.t 24) oD),
  oV 26 [10, 6] (.mv (.t 25)),
⟨some 27, .mv (.t 3), some (26, true), [11]⟩,
⟨some 28, .call 79 [(.t 27)], some (26, true), [12, 11, 11]⟩,
⟨some 29, .mv (.t 0), some (26, true), [11]⟩,
⟨some 30, .sslice (.t 29) (some oB) none, some (26, true), [14, 11]⟩,
⟨some 31, .bin .eql (.t 28) (.t 30), some (26, true), [13, 15, 11]⟩,
  oV 32 [11, 16] (.pick (.t 26) (.t 31) oD),
  oV 2 [17, 13, 0, 1, 2, 3, 4, 5, 6, 7, 8, 9, 10, 11, 12, 13, 14, 15, 16, 17] (.mv (.t 32))]
def f43.r4 : List IOper := [
  om 33 0,
  oz 34 (.strToBytes (.t 33)),
  oN 35 34,
  oz 36 (.mv oA)]
def f43.r5 : List IOper := [
  oz 37 (.bin .lss (.t 36) (.t 35))]
def f43.r6 : List IOper := [
  om 38 36,
  oI 39 1 34 36,
  oL 40 1 false 39,
  om 5 38,
  om 6 40]
def f43.r7 : List IOper := [
  om 41 6,
  oz 42 (.bin .lss (.t 41) (.c (.d (.int .u8 97)))),
  om 43 42,
  oM 44 43 false 6,
  og 45 43 false (.bin .gtr (.t 44) (.c (.d (.int .u8 122)))),
  oz 46 (.pick (.t 43) oC (.t 45)),
  om 47 46,
  oM 48 47 true 5,
  og 49 47 true (.bin .eql (.t 48) oA),
  oM 50 47 true 49,
  oM 51 50 false 6,
  og 52 50 false (.bin .lss (.t 51) (.c (.d (.int .u8 48)))),
  og 53 47 true (.pick (.t 50) oC (.t 52)),
  oM 54 47 true 53,
  oM 55 54 false 6,
  og 56 54 false (.bin .gtr (.t 55) (.c (.d (.int .u8 57)))),
  og 57 47 true (.pick (.t 54) oC (.t 56)),
  oz 58 (.pick (.t 47) (.t 57) oD)]
def f43.r8 : List IOper := [
  oz 2 (.mv oD)]
def f43.r9 : List IOper := [
  oz 59 (.bin .add (.t 36) oB),
  om 36 59]
def f43.l10 : IR := (.seq (.region f43.r5) (.seq (.cond (.t 37) .skip (.exit 0)) (.seq (.block 1 (.seq (.region f43.r6) (.seq (.region f43.r7) (.cond (.t 58) (.seq (.region f43.r8) .ret) .skip)))) (.region f43.r9))))
def f43.r11 : List IOper := [
  om 60 0,
  oz 61 (.bin .neq (.t 60) oE),
  om 62 61,
  oM 63 62 true 0,
  og 64 62 true (.len .str (.t 63)),
  og 65 62 true (.bin .leq (.t 64) (.c (.d (.int .i64 30)))),
  oz 66 (.pick (.t 62) (.t 65) oD),
  om 2 66]
def f43 : IFn := ⟨1, 67, [.t 2], (.seq (.region f43.r0) (.seq (.seq (.region f43.r1) (.cond (.t 8) (.seq (.region f43.r2) (.seq (.draw f43.r3) .ret)) .skip)) (.seq (.seq (.region f43.r4) (.block 0 (.loop f43.l10))) (.seq (.region f43.r11) .ret))))⟩
def f44.r0 : List IOper := [
  oz 2 (.mv oD)]
def f44.r1 : List IOper := [
  om 3 0,
  oz 4 (.bin .geq (.t 3) (.c (.d (.int .i64 (-1000000))))),
  om 5 4,
  oM 6 5 true 0,
  og 7 5 true (.bin .leq (.t 6) (.c (.d (.int .i64 1000000)))),
  oz 8 (.pick (.t 5) (.t 7) oD),
  om 2 8]
def f44 : IFn := ⟨1, 9, [.t 2], (.seq (.region f44.r0) (.seq (.region f44.r1) .ret))⟩
def f45.r0 : List IOper := [
  oz 2 (.mv (.c (.nils)))]
def f45.r1 : List IOper := [
  om 3 0,
  oz 4 (.eq false .slice (.t 3) (.c (.nils)))]
def f45.r2 : List IOper := [
  oz 2 (.mv (.c (.nils)))]
def f45.r3 : List IOper := [
  oz 5 (.mkSlice 3 0 [] []),
  om 6 0,
  oz 7 (.append 3 56 (.t 5) (.t 6)),
  om 2 7]
def f45 : IFn := ⟨1, 8, [.t 2], (.seq (.region f45.r0) (.seq (.seq (.region f45.r1) (.cond (.t 4) (.seq (.region f45.r2) .ret) .skip)) (.seq (.region f45.r3) .ret)))⟩
def f46.r0 : List IOper := [
  oz 4 (.mv oA)]
def f46.r1 : List IOper := [
  om 6 0,
  oN 7 6,
  oz 8 (.mv oA)]
def f46.r2 : List IOper := [
  oz 9 (.bin .lss (.t 8) (.t 7))]
def f46.r3 : List IOper := [
  om 10 8,
  om 5 10]
def f46.r4 : List IOper := [
  om 11 1,
  om 12 0,
  om 13 5,
  oI 14 2 12 13,
  oL 15 2 true 14,
  oz 16 (.callv (.t 11) [(.t 15)])]
def f46.r5 : List IOper := [
  om 17 5,
  om 4 17]
def f46.r6 : List IOper := [
  oz 18 (.bin .add (.t 8) oB),
  om 8 18]
def f46.l7 : IR := (.seq (.region f46.r2) (.seq (.cond (.t 9) .skip (.exit 0)) (.seq (.block 1 (.seq (.region f46.r3) (.seq (.region f46.r4) (.cond (.t 16) (.seq (.region f46.r5) .ret) .skip)))) (.region f46.r6))))
def f46.r8 : List IOper := [
  oz 4 (.mv (.c (.d (.int .i64 (-1)))))]
def f46 : IFn := ⟨2, 19, [.t 4], (.seq (.region f46.r0) (.seq (.seq (.region f46.r1) (.block 0 (.loop f46.l7))) (.seq (.region f46.r8) .ret)))⟩
def f47.r0 : List IOper := [
  oz 2 (.mv oD)]
def f47.r1 : List IOper := [
  om 3 0,
  oz 4 (.bin .geq (.t 3) (.c (.d (.int .i64 (-1000000))))),
  om 5 4,
  oM 6 5 true 0,
  og 7 5 true (.bin .leq (.t 6) (.c (.d (.int .i64 1000000)))),
  oz 8 (.pick (.t 5) (.t 7) oD),
  om 2 8]
def f47 : IFn := ⟨1, 9, [.t 2], (.seq (.region f47.r0) (.seq (.region f47.r1) .ret))⟩
def f48.r0 : List IOper := [
  oz 2 (.mv oD)]
def f48.r1 : List IOper := [
  om 5 0,
  oz 6 (.len .str (.t 5)),
  oz 7 (.bin .eql (.t 6) oA),
  om 8 7,
  oM 9 8 false 0,
  og 10 8 false (.len .str (.t 9)),
  og 11 8 false (.bin .gtr (.t 10) (.c (.d (.int .i64 30)))),
  oz 12 (.pick (.t 8) oC (.t 11))]
def f48.r2 : List IOper := [
  oz 2 (.mv oD)]
def f48.r3 : List IOper := [
  om 13 0,
  oz 14 (.idxS (.t 13) oA),
  oz 15 (.bin .eql (.t 14) (.c (.d (.int .u8 95))))]
def f48.r4 : List IOper := [
  om 16 0,
  oz 17 (.len .str (.t 16)),
  oz 18 (.bin .lss (.t 17) (.c (.d (.int .i64 2)))),
  om 19 18,
  oM 20 19 false 0,
  og 21 19 false (.len .str (.t 20)),
  og 22 19 false (.bin .gtr (.t 21) (.c (.d (.int .i64 10)))),
  oz 23 (.pick (.t 19) oC (.t 22)),
  om 24 23,
  oM 25 24 false 0,
  og 26 24 false (.idxS (.t 25) oB),
  og 27 24 false (.bin .eql (.t 26) (.c (.d (.int .u8 48)))),
  oz 28 (.pick (.t 24) oC (.t 27))]
def f48.r5 : List IOper := [
  oz 2 (.mv oD)]
def f48.r6 : List IOper := [
  oz 3 (.mv oB)]
def f48.r7 : List IOper := [
  om 29 3,
  om 30 0,
  oz 31 (.len .str (.t 30)),
  oz 32 (.bin .lss (.t 29) (.t 31))]
def f48.r8 : List IOper := [
  om 35 0,
  om 36 3,
  oz 37 (.idxS (.t 35) (.t 36)),
  oR 38 80 37,
  oz 39 (.un .not (.t 38))]
def f48.r9 : List IOper := [
  oz 2 (.mv oD)]
def f48.r10 : List IOper := [
  om 33 3,
  oz 34 (.bin .add (.t 33) oB),
  om 3 34]
def f48.l11 : IR := (.seq (.seq (.region f48.r7) (.cond (.t 32) .skip (.exit 0))) (.seq (.block 1 (.seq (.region f48.r8) (.cond (.t 39) (.seq (.region f48.r9) .ret) .skip))) (.region f48.r10)))
def f48.r12 : List IOper := [
  oz 2 (.mv oC)]
def f48.r13 : List IOper := [
  oz 4 (.mv oA)]
def f48.r14 : List IOper := [
  om 40 4,
  om 41 0,
  oz 42 (.len .str (.t 41)),
  oz 43 (.bin .lss (.t 40) (.t 42))]
def f48.r15 : List IOper := [
  om 46 0,
  om 47 4,
  oz 48 (.idxS (.t 46) (.t 47)),
  oR 49 81 48,
  oz 50 (.un .not (.t 49)),
  om 51 50,
  oM 52 51 true 4,
  og 53 51 true (.bin .eql (.t 52) oA),
  oM 54 51 true 53,
  oM 55 54 false 0,
  oM 56 54 false 4,
  og 57 54 false (.idxS (.t 55) (.t 56)),
  og 58 54 false (.call 80 [(.t 57)]),
  og 59 54 false (.un .not (.t 58)),
  og 60 51 true (.pick (.t 54) oC (.t 59)),
  oz 61 (.pick (.t 51) (.t 60) oD)]
def f48.r16 : List IOper := [
  oz 2 (.mv oD)]
def f48.r17 : List IOper := [
  om 44 4,
  oz 45 (.bin .add (.t 44) oB),
  om 4 45]
def f48.l18 : IR := (.seq (.seq (.region f48.r14) (.cond (.t 43) .skip (.exit 2))) (.seq (.block 3 (.seq (.region f48.r15) (.cond (.t 61) (.seq (.region f48.r16) .ret) .skip))) (.region f48.r17)))
def f48.r19 : List IOper := [
  oz 2 (.mv oC)]
def f48 : IFn := ⟨1, 62, [.t 2], (.seq (.region f48.r0) (.seq (.seq (.region f48.r1) (.cond (.t 12) (.seq (.region f48.r2) .ret) .skip)) (.seq (.seq (.region f48.r3) (.cond (.t 15) (.seq (.seq (.region f48.r4) (.cond (.t 28) (.seq (.region f48.r5) .ret) .skip)) (.seq (.seq (.region f48.r6) (.block 0 (.loop f48.l11))) (.seq (.region f48.r12) .ret))) .skip)) (.seq (.seq (.region f48.r13) (.block 2 (.loop f48.l18))) (.seq (.region f48.r19) .ret)))))⟩
def f49.r0 : List IOper := [
  oz 1 (.box 3 (.t 0)),
  oz 2 (.mv oD)]
def f49.r1 : List IOper := [
  oF 3 0 1 1,
  oL 4 1 false 3,
  oR 5 82 4,
  om 6 5,
  oH 7 6 true 1 2 1,
  oG 8 6 true 2 true 7,
  og 9 6 true (.call 83 [(.t 8)]),
  oz 10 (.pick (.t 6) (.t 9) oD),
  om 2 10]
def f49 : IFn := ⟨1, 11, [.t 2], (.seq (.region f49.r0) (.seq (.region f49.r1) .ret))⟩
def f50.r0 : List IOper := [
  oz 2 (.box 2 (.t 0)),
  oz 3 (.box 2 (.t 1)),
  oz 4 (.mv oA)]
def f50.r1 : List IOper := [
  oz 5 (.mv oA)]
def f50.r2 : List IOper := [
  om 8 5,
  oF 9 1 1 2,
  oL 10 1 false 9,
  oN 11 10,
  oz 12 (.bin .lss (.t 8) (.t 11)),
  om 13 12,
  oM 14 13 true 5,
  oH 15 13 true 1 1 3,
  oG 16 13 true 1 false 15,
  og 17 13 true (.len .slice (.t 16)),
  og 18 13 true (.bin .lss (.t 14) (.t 17)),
  oz 19 (.pick (.t 13) (.t 18) oD)]
def f50.r3 : List IOper := [
  oF 22 1 1 2,
  oV 23 [0] (.load 1 false (.t 22)),
  om 24 5,
  oV 25 [1, 2] (.iaddr 2 (.t 23) (.t 24)),
  oV 26 [3] (.load 2 true (.t 25)),
  oF 27 1 1 3,
  oV 28 [5] (.load 1 false (.t 27)),
  om 29 5,
  oV 30 [6, 7] (.iaddr 2 (.t 28) (.t 29)),
  oV 31 [8] (.load 2 true (.t 30)),
  oz 6 (.alloc [.d (.str []), .d (.int .i64 0)]),
  oz 7 (.alloc [.d (.str []), .d (.int .i64 0)]),
⟨none, .store 2 (.t 6) (.t 26), none, [10, 4, 0, 1, 2, 3, 4, 10, 11]⟩,
⟨none, .store 2 (.t 7) (.t 31), none, [11, 9, 12, 0, 1, 2, 3, 4, 5, 6, 7, 8, 9, 10, 11, 12]⟩]
def f50.r4 : List IOper := [
  oF 33 0 1 6,
  oL 34 1 false 33,
  oF 35 0 1 7,
  oL 36 1 false 35,
  oz 37 (.bin .lss (.t 34) (.t 36)),
  om 38 37,
  oH 39 38 false 0 1 6,
  oG 40 38 false 1 false 39,
  oH 41 38 false 0 1 7,
  oG 42 38 false 1 false 41,
  og 43 38 false (.bin .eql (.t 40) (.t 42)),
  oM 44 38 false 43,
  oH 45 44 true 1 1 6,
  oG 46 44 true 1 false 45,
  oH 47 44 true 1 1 7,
  oG 48 44 true 1 false 47,
  og 49 44 true (.bin .lss (.t 46) (.t 48)),
  og 50 38 false (.pick (.t 44) (.t 49) oD),
  oz 51 (.pick (.t 38) oC (.t 50)),
  om 32 51]
def f50.r5 : List IOper := [
  oz 4 (.mv (.c (.d (.int .i64 (-1)))))]
def f50.r6 : List IOper := [
  oL 53 2 true 6,
  oL 54 2 true 7,
  oz 55 (.eqS true [.str, .int] (.t 53) (.t 54)),
  om 52 55]
def f50.r7 : List IOper := [
  oz 4 (.mv oB)]
def f50.r8 : List IOper := [
  om 20 5,
  oz 21 (.bin .add (.t 20) oB),
  om 5 21]
def f50.l9 : IR := (.seq (.seq (.region f50.r2) (.cond (.t 19) .skip (.exit 0))) (.seq (.block 1 (.seq (.draw f50.r3) (.block 2 (.seq (.region f50.r4) (.cond (.t 32) (.seq (.region f50.r5) .ret) (.seq (.region f50.r6) (.cond (.t 52) (.seq (.region f50.r7) .ret) .skip))))))) (.region f50.r8)))
def f50.r10 : List IOper := [
  oF 57 1 1 2,
  oL 58 1 false 57,
  oN 59 58,
  oF 60 1 1 3,
  oL 61 1 false 60,
  oN 62 61,
  oz 63 (.bin .lss (.t 59) (.t 62)),
  om 64 63,
  oH 65 64 false 1 1 2,
  oG 66 64 false 1 false 65,
  og 67 64 false (.len .slice (.t 66)),
  oH 68 64 false 1 1 3,
  oG 69 64 false 1 false 68,
  og 70 64 false (.len .slice (.t 69)),
  og 71 64 false (.bin .eql (.t 67) (.t 70)),
  oM 72 64 false 71,
  oH 73 72 true 0 1 2,
  oG 74 72 true 1 false 73,
  oH 75 72 true 0 1 3,
  oG 76 72 true 1 false 75,
  og 77 72 true (.bin .lss (.t 74) (.t 76)),
  og 78 64 false (.pick (.t 72) (.t 77) oD),
  oz 79 (.pick (.t 64) oC (.t 78)),
  om 56 79]
def f50.r11 : List IOper := [
  oz 4 (.mv (.c (.d (.int .i64 (-1)))))]
def f50.r12 : List IOper := [
  oF 81 1 1 2,
  oL 82 1 false 81,
  oN 83 82,
  oF 84 1 1 3,
  oL 85 1 false 84,
  oN 86 85,
  oz 87 (.bin .gtr (.t 83) (.t 86)),
  om 88 87,
  oH 89 88 false 0 1 2,
  oG 90 88 false 1 false 89,
  oH 91 88 false 0 1 3,
  oG 92 88 false 1 false 91,
  og 93 88 false (.bin .gtr (.t 90) (.t 92)),
  oz 94 (.pick (.t 88) oC (.t 93)),
  om 80 94]
def f50.r13 : List IOper := [
  oz 4 (.mv oB)]
def f50.r14 : List IOper := [
  oz 4 (.mv oA)]
def f50 : IFn := ⟨2, 95, [.t 4], (.seq (.region f50.r0) (.seq (.seq (.region f50.r1) (.block 0 (.loop f50.l9))) (.seq (.block 3 (.seq (.region f50.r10) (.cond (.t 56) (.seq (.region f50.r11) .ret) (.seq (.region f50.r12) (.cond (.t 80) (.seq (.region f50.r13) .ret) .skip))))) (.seq (.region f50.r14) .ret))))⟩
def f51.r0 : List IOper := [
  oz 2 (.box 2 (.t 0)),
  oz 3 (.box 2 (.t 1)),
  oz 4 (.mv oA)]
def f51.r1 : List IOper := [
  oF 6 1 1 2,
  oL 7 1 false 6,
  oF 8 1 1 3,
  oL 9 1 false 8,
  oz 10 (.call 84 [(.t 7), (.t 9), (.f 85)]),
  om 5 10]
def f51.r2 : List IOper := [
  om 11 5,
  oz 12 (.bin .neq (.t 11) oA)]
def f51.r3 : List IOper := [
  om 13 5,
  om 4 13]
def f51.r4 : List IOper := [
  oF 14 0 1 2,
  oL 15 1 false 14,
  oF 16 0 1 3,
  oL 17 1 false 16,
  oz 18 (.call 87 [(.t 15), (.t 17)]),
  om 4 18]
def f51 : IFn := ⟨2, 19, [.t 4], (.seq (.region f51.r0) (.seq (.region f51.r1) (.seq (.seq (.region f51.r2) (.cond (.t 12) (.seq (.region f51.r3) .ret) .skip)) (.seq (.region f51.r4) .ret))))⟩
def f52.r0 : List IOper := [
  oz 4 (.mv oA)]
def f52.r1 : List IOper := [
  om 6 0,
  oN 7 6,
  oz 8 (.mv oA)]
def f52.r2 : List IOper := [
  oz 9 (.bin .lss (.t 8) (.t 7))]
def f52.r3 : List IOper := [
  om 10 8,
  om 5 10]
def f52.r4 : List IOper := [
  om 11 1,
  om 12 0,
  om 13 5,
  oI 14 2 12 13,
  oL 15 2 true 14,
  oz 16 (.callv (.t 11) [(.t 15)])]
def f52.r5 : List IOper := [
  om 17 5,
  om 4 17]
def f52.r6 : List IOper := [
  oz 18 (.bin .add (.t 8) oB),
  om 8 18]
def f52.l7 : IR := (.seq (.region f52.r2) (.seq (.cond (.t 9) .skip (.exit 0)) (.seq (.block 1 (.seq (.region f52.r3) (.seq (.region f52.r4) (.cond (.t 16) (.seq (.region f52.r5) .ret) .skip)))) (.region f52.r6))))
def f52.r8 : List IOper := [
  oz 4 (.mv (.c (.d (.int .i64 (-1)))))]
def f52 : IFn := ⟨2, 19, [.t 4], (.seq (.region f52.r0) (.seq (.seq (.region f52.r1) (.block 0 (.loop f52.l7))) (.seq (.region f52.r8) .ret)))⟩
def f74.r0 : List IOper := [
  oz 2 (.mv oD)]
def f74.r1 : List IOper := [
  om 3 0,
  oz 4 (.len .str (.t 3)),
  oz 5 (.bin .lss (.t 4) oB),
  om 6 5,
  oM 7 6 false 0,
  og 8 6 false (.len .str (.t 7)),
  og 9 6 false (.bin .gtr (.t 8) (.c (.d (.int .i64 30)))),
  oz 10 (.pick (.t 6) oC (.t 9)),
  om 11 10,
  oM 12 11 false 0,
  og 13 11 false (.idxS (.t 12) oA),
  og 14 11 false (.bin .lss (.t 13) (.c (.d (.int .u8 65)))),
  oz 15 (.pick (.t 11) oC (.t 14)),
  om 16 15,
  oM 17 16 false 0,
  og 18 16 false (.idxS (.t 17) oA),
  og 19 16 false (.bin .gtr (.t 18) (.c (.d (.int .u8 90)))),
  oz 20 (.pick (.t 16) oC (.t 19))]
def f74.r2 : List IOper := [
  oz 2 (.mv oD)]
def f74.r3 : List IOper := [
  om 21 0,
  oz 22 (.sslice (.t 21) (some oB) none),
  oz 23 (.call 111 [(.t 22), (.c (.d (.str [48, 49, 50, 51, 52, 53, 54, 55, 56, 57])))]),
  oz 24 (.bin .eql (.t 23) oE),
  om 2 24]
def f74 : IFn := ⟨1, 25, [.t 2], (.seq (.region f74.r0) (.seq (.seq (.region f74.r1) (.cond (.t 20) (.seq (.region f74.r2) .ret) .skip)) (.seq (.region f74.r3) .ret)))⟩
def f75.r0 : List IOper := [
  oz 1 (.box 2 (.t 0)),
  oz 2 (.mv oD)]
def f75.r1 : List IOper := [
  oF 3 0 1 1,
  oL 4 1 false 3,
  oz 5 (.bin .eql (.t 4) oE),
  om 6 5,
  oH 7 6 false 0 1 1,
  oG 8 6 false 1 false 7,
  og 9 6 false (.call 43 [(.t 8)]),
  oz 10 (.pick (.t 6) oC (.t 9)),
  om 11 10,
  oH 12 11 true 1 1 1,
  oG 13 11 true 1 false 12,
  og 14 11 true (.len .slice (.t 13)),
  og 15 11 true (.bin .leq (.t 14) (.c (.d (.int .i64 6)))),
  oz 16 (.pick (.t 11) (.t 15) oD),
  om 17 16,
  oH 18 17 true 1 1 1,
  oG 19 17 true 1 false 18,
  og 20 17 true (.call 29 [(.t 19), (.f 112)]),
  og 21 17 true (.un .not (.t 20)),
  oz 22 (.pick (.t 17) (.t 21) oD),
  om 2 22]
def f75 : IFn := ⟨1, 23, [.t 2], (.seq (.region f75.r0) (.seq (.region f75.r1) .ret))⟩
def f76.r0 : List IOper := [
  oz 4 (.mv oA)]
def f76.r1 : List IOper := [
  om 6 0,
  oN 7 6,
  oz 8 (.mv oA)]
def f76.r2 : List IOper := [
  oz 9 (.bin .lss (.t 8) (.t 7))]
def f76.r3 : List IOper := [
  om 10 8,
  om 5 10]
def f76.r4 : List IOper := [
  om 11 1,
  om 12 0,
  om 13 5,
  oI 14 3 12 13,
  oL 15 3 true 14,
  oz 16 (.callv (.t 11) [(.t 15)])]
def f76.r5 : List IOper := [
  om 17 5,
  om 4 17]
def f76.r6 : List IOper := [
  oz 18 (.bin .add (.t 8) oB),
  om 8 18]
def f76.l7 : IR := (.seq (.region f76.r2) (.seq (.cond (.t 9) .skip (.exit 0)) (.seq (.block 1 (.seq (.region f76.r3) (.seq (.region f76.r4) (.cond (.t 16) (.seq (.region f76.r5) .ret) .skip)))) (.region f76.r6))))
def f76.r8 : List IOper := [
  oz 4 (.mv (.c (.d (.int .i64 (-1)))))]
def f76 : IFn := ⟨2, 19, [.t 4], (.seq (.region f76.r0) (.seq (.seq (.region f76.r1) (.block 0 (.loop f76.l7))) (.seq (.region f76.r8) .ret)))⟩
def f80.r0 : List IOper := [
  oz 2 (.mv oD)]
def f80.r1 : List IOper := [
  om 3 0,
  oz 4 (.bin .geq (.t 3) (.c (.d (.int .u8 48)))),
  om 5 4,
  oM 6 5 true 0,
  og 7 5 true (.bin .leq (.t 6) (.c (.d (.int .u8 57)))),
  oz 8 (.pick (.t 5) (.t 7) oD),
  om 2 8]
def f80 : IFn := ⟨1, 9, [.t 2], (.seq (.region f80.r0) (.seq (.region f80.r1) .ret))⟩
def f81.r0 : List IOper := [
  oz 2 (.mv oD)]
def f81.r1 : List IOper := [
  om 3 0,
  oz 4 (.bin .geq (.t 3) (.c (.d (.int .u8 97)))),
  om 5 4,
  oM 6 5 true 0,
  og 7 5 true (.bin .leq (.t 6) (.c (.d (.int .u8 122)))),
  oz 8 (.pick (.t 5) (.t 7) oD),
  om 2 8]
def f81 : IFn := ⟨1, 9, [.t 2], (.seq (.region f81.r0) (.seq (.region f81.r1) .ret))⟩
def f82.r0 : List IOper := [
  oz 2 (.mv oD)]
def f82.r1 : List IOper := [
  om 3 0,
  oz 4 (.bin .eql (.t 3) (.c (.d (.str [105, 110, 116])))),
  om 5 4,
  oM 6 5 false 0,
  og 7 5 false (.bin .eql (.t 6) (.c (.d (.str [98, 111, 111, 108])))),
  oz 8 (.pick (.t 5) oC (.t 7)),
  om 9 8,
  oM 10 9 false 0,
  og 11 9 false (.call 117 [(.t 10)]),
  oz 12 (.pick (.t 9) oC (.t 11)),
  om 2 12]
def f82 : IFn := ⟨1, 13, [.t 2], (.seq (.region f82.r0) (.seq (.region f82.r1) .ret))⟩
def f83.r0 : List IOper := [
  oz 1 (.box 2 (.t 0)),
  oz 2 (.mv oD)]
def f83.r1 : List IOper := [
  oz 3 (.mv oA)]
def f83.r2 : List IOper := [
  om 4 3,
  oF 5 1 1 1,
  oL 6 1 false 5,
  oN 7 6,
  oz 8 (.bin .lss (.t 4) (.t 7))]
def f83.r3 : List IOper := [
  oF 11 1 1 1,
  oL 12 1 false 11,
  om 13 3,
  oI 14 2 12 13,
  oL 15 2 true 14,
  oR 16 22 15,
  oz 17 (.un .not (.t 16))]
def f83.r4 : List IOper := [
  oz 2 (.mv oD)]
def f83.r5 : List IOper := [
  om 9 3,
  oz 10 (.bin .add (.t 9) oB),
  om 3 10]
def f83.l6 : IR := (.seq (.seq (.region f83.r2) (.cond (.t 8) .skip (.exit 0))) (.seq (.block 1 (.seq (.region f83.r3) (.cond (.t 17) (.seq (.region f83.r4) .ret) .skip))) (.region f83.r5)))
def f83.r7 : List IOper := [
  oF 18 1 1 1,
  oL 19 1 false 18,
  oN 20 19,
  oz 21 (.bin .leq (.t 20) (.c (.d (.int .i64 6)))),
  om 22 21,
  oH 23 22 true 0 1 1,
  oG 24 22 true 1 false 23,
  og 25 22 true (.bin .eql (.t 24) oE),
  oM 26 22 true 25,
  oH 27 26 false 0 1 1,
  oG 28 26 false 1 false 27,
  og 29 26 false (.call 48 [(.t 28)]),
  og 30 22 true (.pick (.t 26) oC (.t 29)),
  oz 31 (.pick (.t 22) (.t 30) oD),
  om 2 31]
def f83 : IFn := ⟨1, 32, [.t 2], (.seq (.region f83.r0) (.seq (.seq (.region f83.r1) (.block 0 (.loop f83.l6))) (.seq (.region f83.r7) .ret)))⟩
def f84.r0 : List IOper := [
  oz 6 (.mv oA)]
def f84.r1 : List IOper := [
  om 11 0,
  oN 12 11,
  oz 13 (.mv oA)]
def f84.r2 : List IOper := [
  oz 14 (.bin .lss (.t 13) (.t 12))]
def f84.r3 : List IOper := [
  om 15 13,
  oI 16 2 11 13,
  oL 17 2 true 16,
  oz 8 (.alloc [.d (.str []), .d (.int .i64 0)]),
  om 7 15,
  oy (.store 2 (.t 8) (.t 17))]
def f84.r4 : List IOper := [
  om 18 7,
  om 19 1,
  oN 20 19,
  oz 21 (.bin .geq (.t 18) (.t 20))]
def f84.r5 : List IOper := [
  oz 6 (.mv oB)]
def f84.r6 : List IOper := [
  om 22 1,
  om 23 7,
  oI 24 2 22 23,
  oL 25 2 true 24,
  oz 9 (.alloc [.d (.str []), .d (.int .i64 0)]),
  oy (.store 2 (.t 9) (.t 25))]
def f84.r7 : List IOper := [
  om 26 2,
  oL 27 2 true 8,
  oL 28 2 true 9,
  oz 29 (.callv (.t 26) [(.t 27), (.t 28)]),
  om 10 29]
def f84.r8 : List IOper := [
  om 30 10,
  oz 31 (.bin .neq (.t 30) oA)]
def f84.r9 : List IOper := [
  om 32 10,
  om 6 32]
def f84.r10 : List IOper := [
  oz 33 (.bin .add (.t 13) oB),
  om 13 33]
def f84.l11 : IR := (.seq (.region f84.r2) (.seq (.cond (.t 14) .skip (.exit 0)) (.seq (.block 1 (.seq (.region f84.r3) (.seq (.seq (.region f84.r4) (.cond (.t 21) (.seq (.region f84.r5) .ret) .skip)) (.seq (.region f84.r6) (.seq (.region f84.r7) (.seq (.region f84.r8) (.cond (.t 31) (.seq (.region f84.r9) .ret) .skip))))))) (.region f84.r10))))
def f84.r12 : List IOper := [
  om 34 0,
  oN 35 34,
  om 36 1,
  oN 37 36,
  oz 38 (.bin .lss (.t 35) (.t 37))]
def f84.r13 : List IOper := [
  oz 6 (.mv (.c (.d (.int .i64 (-1)))))]
def f84.r14 : List IOper := [
  oz 6 (.mv oA)]
def f84 : IFn := ⟨3, 39, [.t 6], (.seq (.region f84.r0) (.seq (.seq (.region f84.r1) (.block 0 (.loop f84.l11))) (.seq (.seq (.region f84.r12) (.cond (.t 38) (.seq (.region f84.r13) .ret) .skip)) (.seq (.region f84.r14) .ret))))⟩
def f85.r0 : List IOper := [
  oz 2 (.box 2 (.t 0)),
  oz 3 (.box 2 (.t 1)),
  oz 4 (.mv oA)]
def f85.r1 : List IOper := [
  oF 6 0 1 2,
  oL 7 1 false 6,
  oF 8 0 1 3,
  oL 9 1 false 8,
  oz 10 (.call 86 [(.t 7), (.t 9)]),
  om 5 10]
def f85.r2 : List IOper := [
  om 11 5,
  oz 12 (.bin .neq (.t 11) oA)]
def f85.r3 : List IOper := [
  om 13 5,
  om 4 13]
def f85.r4 : List IOper := [
  oF 14 1 1 2,
  oL 15 1 false 14,
  oF 16 1 1 3,
  oL 17 1 false 16,
  oz 18 (.call 87 [(.t 15), (.t 17)]),
  om 4 18]
def f85 : IFn := ⟨2, 19, [.t 4], (.seq (.region f85.r0) (.seq (.seq (.region f85.r1) (.seq (.region f85.r2) (.cond (.t 12) (.seq (.region f85.r3) .ret) .skip))) (.seq (.region f85.r4) .ret)))⟩
def f86.r0 : List IOper := [
  oz 4 (.mv oA)]
def f86.r1 : List IOper := [
  om 5 0,
  om 6 1,
  oz 7 (.call 118 [(.t 5), (.t 6)]),
  om 4 7]
def f86 : IFn := ⟨2, 8, [.t 4], (.seq (.region f86.r0) (.seq (.region f86.r1) .ret))⟩
def f87.r0 : List IOper := [
  oz 4 (.mv oA)]
def f87.r1 : List IOper := [
  om 6 0,
  om 7 1,
  oz 8 (.bin .lss (.t 6) (.t 7)),
  om 5 8]
def f87.r2 : List IOper := [
  oz 4 (.mv (.c (.d (.int .i64 (-1)))))]
def f87.r3 : List IOper := [
  om 10 0,
  om 11 1,
  oz 12 (.bin .gtr (.t 10) (.t 11)),
  om 9 12]
def f87.r4 : List IOper := [
  oz 4 (.mv oB)]
def f87.r5 : List IOper := [
  oz 4 (.mv oA)]
def f87 : IFn := ⟨2, 13, [.t 4], (.seq (.region f87.r0) (.seq (.block 0 (.seq (.region f87.r1) (.cond (.t 5) (.seq (.region f87.r2) .ret) (.seq (.region f87.r3) (.cond (.t 9) (.seq (.region f87.r4) .ret) .skip))))) (.seq (.region f87.r5) .ret)))⟩
def f111.r0 : List IOper := [
  oz 4 (.mv oE)]
def f111.r1 : List IOper := [
  om 7 0,
  oz 8 (.bin .eql (.t 7) oE),
  om 9 8,
  oM 10 9 false 1,
  og 11 9 false (.bin .eql (.t 10) oE),
  oz 12 (.pick (.t 9) oC (.t 11))]
def f111.r2 : List IOper := [
  om 13 0,
  om 4 13]
def f111.r3 : List IOper := [
  om 14 1,
  oz 15 (.len .str (.t 14)),
  oz 16 (.bin .eql (.t 15) oB),
  om 17 16,
  oM 18 17 true 1,
  og 19 17 true (.idxS (.t 18) oA),
  og 20 17 true (.bin .lss (.t 19) (.c (.d (.int .u8 128)))),
  oz 21 (.pick (.t 17) (.t 20) oD)]
def f111.r4 : List IOper := [
  om 22 0,
  om 23 1,
  oV 24 [1] (.idxS (.t 23) oA),
  oV 25 [0, 2] (.call 147 [(.t 22), (.t 24)]),
  om 26 1,
  oV 27 [4] (.idxS (.t 26) oA),
  oV 28 [3, 5, 3] (.call 146 [(.t 25), (.t 27)]),
  oV 4 [6, 6, 0, 1, 2, 3, 4, 5, 6] (.mv (.t 28))]
def f111.r5 : List IOper := [
  om 30 1,
  oR 31 148 30,
  om 29 31,
  oX 32 29 0,
  oX 33 29 1,
  oz 5 (.alloc [.d (.bool false), .d (.bool false), .d (.bool false), .d (.bool false), .d (.bool false), .d (.bool false), .d (.bool false), .d (.bool false), .d (.bool false), .d (.bool false), .d (.bool false), .d (.bool false), .d (.bool false), .d (.bool false), .d (.bool false), .d (.bool false), .d (.bool false), .d (.bool false), .d (.bool false), .d (.bool false), .d (.bool false), .d (.bool false), .d (.bool false), .d (.bool false), .d (.bool false), .d (.bool false), .d (.bool false), .d (.bool false), .d (.bool false), .d (.bool false), .d (.bool false), .d (.bool false), .d (.bool false), .d (.bool false), .d (.bool false), .d (.bool false), .d (.bool false), .d (.bool false), .d (.bool false), .d (.bool false), .d (.bool false), .d (.bool false), .d (.bool false), .d (.bool false), .d (.bool false), .d (.bool false), .d (.bool false), .d (.bool false), .d (.bool false), .d (.bool false), .d (.bool false), .d (.bool false), .d (.bool false), .d (.bool false), .d (.bool false), .d (.bool false), .d (.bool false), .d (.bool false), .d (.bool false), .d (.bool false), .d (.bool false), .d (.bool false), .d (.bool false), .d (.bool false), .d (.bool false), .d (.bool false), .d (.bool false), .d (.bool false), .d (.bool false), .d (.bool false), .d (.bool false), .d (.bool false), .d (.bool false), .d (.bool false), .d (.bool false), .d (.bool false), .d (.bool false), .d (.bool false), .d (.bool false), .d (.bool false), .d (.bool false), .d (.bool false), .d (.bool false), .d (.bool false), .d (.bool false), .d (.bool false), .d (.bool false), .d (.bool false), .d (.bool false), .d (.bool false), .d (.bool false), .d (.bool false), .d (.bool false), .d (.bool false), .d (.bool false), .d (.bool false), .d (.bool false), .d (.bool false), .d (.bool false), .d (.bool false), .d (.bool false), .d (.bool false), .d (.bool false), .d (.bool false), .d (.bool false), .d (.bool false), .d (.bool false), .d (.bool false), .d (.bool false), .d (.bool false), .d (.bool false), .d (.bool false), .d (.bool false), .d (.bool false), .d (.bool false), .d (.bool false), .d (.bool false), .d (.bool false), .d (.bool false), .d (.bool false), .d (.bool false), .d (.bool false), .d (.bool false), .d (.bool false), .d (.bool false), .d (.bool false), .d (.bool false), .d (.bool false), .d (.bool false), .d (.bool false), .d (.bool false), .d (.bool false), .d (.bool false), .d (.bool false), .d (.bool false), .d (.bool false), .d (.bool false), .d (.bool false), .d (.bool false), .d (.bool false), .d (.bool false), .d (.bool false), .d (.bool false), .d (.bool false), .d (.bool false), .d (.bool false), .d (.bool false), .d (.bool false), .d (.bool false), .d (.bool false), .d (.bool false), .d (.bool false), .d (.bool false), .d (.bool false), .d (.bool false), .d (.bool false), .d (.bool false), .d (.bool false), .d (.bool false), .d (.bool false), .d (.bool false), .d (.bool false), .d (.bool false), .d (.bool false), .d (.bool false), .d (.bool false), .d (.bool false), .d (.bool false), .d (.bool false), .d (.bool false), .d (.bool false), .d (.bool false), .d (.bool false), .d (.bool false), .d (.bool false), .d (.bool false), .d (.bool false), .d (.bool false), .d (.bool false), .d (.bool false), .d (.bool false), .d (.bool false), .d (.bool false), .d (.bool false), .d (.bool false), .d (.bool false), .d (.bool false), .d (.bool false), .d (.bool false), .d (.bool false), .d (.bool false), .d (.bool false), .d (.bool false), .d (.bool false), .d (.bool false), .d (.bool false), .d (.bool false), .d (.bool false), .d (.bool false), .d (.bool false), .d (.bool false), .d (.bool false), .d (.bool false), .d (.bool false), .d (.bool false), .d (.bool false), .d (.bool false), .d (.bool false), .d (.bool false), .d (.bool false), .d (.bool false), .d (.bool false), .d (.bool false), .d (.bool false), .d (.bool false), .d (.bool false), .d (.bool false), .d (.bool false), .d (.bool false), .d (.bool false), .d (.bool false), .d (.bool false), .d (.bool false), .d (.bool false), .d (.bool false), .d (.bool false), .d (.bool false), .d (.bool false), .d (.bool false), .d (.bool false), .d (.bool false), .d (.bool false), .d (.bool false), .d (.bool false), .d (.bool false), .d (.bool false), .d (.bool false), .d (.bool false), .d (.bool false), .d (.bool false), .d (.bool false), .d (.bool false), .d (.bool false), .d (.bool false), .d (.bool false), .d (.bool false), .d (.bool false), .d (.bool false), .d (.bool false), .d (.bool false), .d (.bool false), .d (.bool false), .d (.bool false), .d (.bool false), .d (.bool false), .d (.bool false)]),
  oy (.store 256 (.t 5) (.t 32)),
  om 6 33]
def f111.r6 : List IOper := [
  om 34 6]
def f111.r7 : List IOper := [
  om 35 0,
  oz 36 (.call 150 [(.t 35), (.t 5)]),
  oz 37 (.call 149 [(.t 36), (.t 5)]),
  om 4 37]
def f111.r8 : List IOper := [
  om 38 0,
  om 39 1,
  oz 40 (.call 152 [(.t 38), (.t 39)]),
  om 41 1,
  oz 42 (.call 151 [(.t 40), (.t 41)]),
  om 4 42]
def f111 : IFn := ⟨2, 43, [.t 4], (.seq (.region f111.r0) (.seq (.seq (.region f111.r1) (.cond (.t 12) (.seq (.region f111.r2) .ret) .skip)) (.seq (.seq (.region f111.r3) (.cond (.t 21) (.seq (.draw f111.r4) .ret) .skip)) (.seq (.seq (.region f111.r5) (.seq (.region f111.r6) (.cond (.t 34) (.seq (.region f111.r7) .ret) .skip))) (.seq (.region f111.r8) .ret)))))⟩
def f112.r0 : List IOper := [
  oz 1 (.box 2 (.t 0)),
  oz 2 (.mv oD)]
def f112.r1 : List IOper := [
  oL 3 2 true 1,
  oR 4 18 3,
  oz 5 (.un .not (.t 4)),
  om 2 5]
def f112 : IFn := ⟨1, 6, [.t 2], (.seq (.region f112.r0) (.seq (.region f112.r1) .ret))⟩
def f117.r0 : List IOper := [
  oz 2 (.mv oD)]
def f117.r1 : List IOper := [
  oz 3 (.mv oB)]
def f117.r2 : List IOper := [
  om 4 3,
  om 5 0,
  oz 6 (.len .str (.t 5)),
  oz 7 (.bin .lss (.t 4) (.t 6))]
def f117.r3 : List IOper := [
  om 10 0,
  om 11 3,
  oz 12 (.idxS (.t 10) (.t 11)),
  oz 13 (.bin .lss (.t 12) (.c (.d (.int .u8 48)))),
  om 14 13,
  oM 15 14 false 0,
  oM 16 14 false 3,
  og 17 14 false (.idxS (.t 15) (.t 16)),
  og 18 14 false (.bin .gtr (.t 17) (.c (.d (.int .u8 57)))),
  oz 19 (.pick (.t 14) oC (.t 18))]
def f117.r4 : List IOper := [
  oz 2 (.mv oD)]
def f117.r5 : List IOper := [
  om 8 3,
  oz 9 (.bin .add (.t 8) oB),
  om 3 9]
def f117.l6 : IR := (.seq (.seq (.region f117.r2) (.cond (.t 7) .skip (.exit 0))) (.seq (.block 1 (.seq (.region f117.r3) (.cond (.t 19) (.seq (.region f117.r4) .ret) .skip))) (.region f117.r5)))
def f117.r7 : List IOper := [
  om 20 0,
  oz 21 (.len .str (.t 20)),
  oz 22 (.bin .geq (.t 21) oB),
  om 23 22,
  oM 24 23 true 0,
  og 25 23 true (.len .str (.t 24)),
  og 26 23 true (.bin .leq (.t 25) (.c (.d (.int .i64 30)))),
  oz 27 (.pick (.t 23) (.t 26) oD),
  om 28 27,
  oM 29 28 true 0,
  og 30 28 true (.idxS (.t 29) oA),
  og 31 28 true (.bin .geq (.t 30) (.c (.d (.int .u8 65)))),
  oz 32 (.pick (.t 28) (.t 31) oD),
  om 33 32,
  oM 34 33 true 0,
  og 35 33 true (.idxS (.t 34) oA),
  og 36 33 true (.bin .leq (.t 35) (.c (.d (.int .u8 90)))),
  oz 37 (.pick (.t 33) (.t 36) oD),
  om 2 37]
def f117 : IFn := ⟨1, 38, [.t 2], (.seq (.region f117.r0) (.seq (.seq (.region f117.r1) (.block 0 (.loop f117.l6))) (.seq (.region f117.r7) .ret)))⟩
def f149.r0 : List IOper := [
  oz 4 (.mv oE)]
def f149.r1 : List IOper := [
  om 5 0,
  oz 6 (.len .str (.t 5)),
  oz 7 (.bin .gtr (.t 6) oA)]
def f149.r2 : List IOper := [
  om 8 1,
  om 9 0,
  oz 10 (.idxS (.t 9) oA),
  oz 11 (.call 206 [(.t 8), (.t 10)]),
  oz 12 (.un .not (.t 11))]
def f149.r3 : List IOper := [
  om 13 0,
  oz 14 (.sslice (.t 13) (some oB) none),
  om 0 14]
def f149.l4 : IR := (.seq (.seq (.region f149.r1) (.cond (.t 7) .skip (.exit 0))) (.block 1 (.seq (.seq (.region f149.r2) (.cond (.t 12) (.exit 0) .skip)) (.region f149.r3))))
def f149.r5 : List IOper := [
  om 15 0,
  om 4 15]
def f149 : IFn := ⟨2, 16, [.t 4], (.seq (.region f149.r0) (.seq (.block 0 (.loop f149.l4)) (.seq (.region f149.r5) .ret)))⟩
def f150.r0 : List IOper := [
  oz 4 (.mv oE)]
def f150.r1 : List IOper := [
  om 5 0,
  oz 6 (.len .str (.t 5)),
  oz 7 (.bin .gtr (.t 6) oA)]
def f150.r2 : List IOper := [
  om 8 1,
  om 9 0,
  om 10 0,
  oz 11 (.len .str (.t 10)),
  oz 12 (.bin .sub (.t 11) oB),
  oz 13 (.idxS (.t 9) (.t 12)),
  oz 14 (.call 206 [(.t 8), (.t 13)]),
  oz 15 (.un .not (.t 14))]
def f150.r3 : List IOper := [
  om 16 0,
  om 17 0,
  oz 18 (.len .str (.t 17)),
  oz 19 (.bin .sub (.t 18) oB),
  oz 20 (.sslice (.t 16) none (some (.t 19))),
  om 0 20]
def f150.l4 : IR := (.seq (.seq (.region f150.r1) (.cond (.t 7) .skip (.exit 0))) (.block 1 (.seq (.seq (.region f150.r2) (.cond (.t 15) (.exit 0) .skip)) (.region f150.r3))))
def f150.r5 : List IOper := [
  om 21 0,
  om 4 21]
def f150 : IFn := ⟨2, 22, [.t 4], (.seq (.region f150.r0) (.seq (.block 0 (.loop f150.l4)) (.seq (.region f150.r5) .ret)))⟩

end Fw.X
