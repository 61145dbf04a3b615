/- Code of the program's functions, as operations of the abstract machine. -/
import Derived.Test.YtgfgckimecpmlaaGreatDoorIr0
namespace Fw.X
open Go
def f248.r0:List ad:=[
⟨some 4,.mv (.c (.ab)),none,[]⟩]
def f248.r1:List ad:=[
⟨some 5,.mv (.t 1),none,[]⟩,
⟨some 6,.bin .lss (.t 5) (.c (.d (.int .i64 0))),none,[]⟩]
def f248.r2:List ad:=[
⟨some 7,.m_ 9 (.c (.d (.str [99,97,110,110,111,116,32,98,101,32,110,101,103,97,116,105,118,101]))),none,[]⟩,
⟨none,.bad,none,[]⟩]
def f248.r3:List ad:=[
⟨some 8,.mv (.t 1),none,[]⟩,
⟨some 9,.mv (.t 0),none,[]⟩,
⟨some 10,.cap (.t 9),none,[]⟩,
⟨some 11,.mv (.t 0),none,[]⟩,
⟨some 12,.len .slice (.t 11),none,[]⟩,
⟨some 13,.bin .sub (.t 10) (.t 12),none,[]⟩,
⟨some 14,.bin .sub (.t 8) (.t 13),none,[]⟩,
⟨some 1,.mv (.t 14),none,[]⟩]
def f248.r4:List ad:=[
⟨some 15,.mv (.t 1),none,[]⟩,
⟨some 16,.bin .gtr (.t 15) (.c (.d (.int .i64 0))),none,[]⟩]
def f248.r5:List ad:=[
⟨some 17,.mv (.t 0),none,[]⟩,
⟨some 18,.mv (.t 0),none,[]⟩,
⟨some 19,.cap (.t 18),none,[]⟩,
⟨some 20,.eu 2 (.t 17) none (some (.t 19)),none,[]⟩,
⟨some 21,.mv (.t 1),none,[]⟩,
⟨some 22,.kZ 2 32 [.d (.int .i64 0),.ab] (.t 20) (.t 21),none,[]⟩,
⟨some 23,.mv (.t 0),none,[]⟩,
⟨some 24,.len .slice (.t 23),none,[]⟩,
⟨some 25,.eu 2 (.t 22) none (some (.t 24)),none,[]⟩,
⟨some 0,.mv (.t 25),none,[]⟩]
def f248.r6:List ad:=[
⟨some 26,.mv (.t 0),none,[]⟩,
⟨some 4,.mv (.t 26),none,[]⟩]
def f248:cD:=⟨2,27,[.t 4],.seq (.region f248.r0) (.seq (.seq (.region f248.r1) (.cond (.t 6) (.region f248.r2) .skip)) (.seq (.seq (.region f248.r3) (.seq (.region f248.r4) (.cond (.t 16) (.region f248.r5) .skip))) (.seq (.region f248.r6) .ret)))⟩
def f254.r0:List ad:=[
 oz 3 (.box 7 (.t 0)),
 oz 4 (.mv oD)]
def f254.r1:List ad:=[
 oF 5 0 1 3,
 oL 6 1 false 5,
 oL 7 1 false 1,
 oz 8 (.bin .eql (.t 6) (.t 7)),
 om 9 8,
 oH 10 9 true 1 1 3,
 oG 11 9 true 1 false 10,
 oG 12 9 true 1 false 2,
 og 13 9 true (.bin .eql (.t 11) (.t 12)),
 oz 14 (.pick (.t 9) (.t 13) oD),
 om 4 14]
def f254:cD:=⟨3,15,[.t 4],.seq (.region f254.r0) (.seq (.region f254.r1) .ret)⟩
def f255.r0:List ad:=[
 oz 3 (.box 7 (.t 0)),
 oz 4 (.mv oD)]
def f255.r1:List ad:=[
 oF 5 0 1 3,
 oL 6 1 false 5,
 oL 7 1 false 1,
 oz 8 (.bin .eql (.t 6) (.t 7)),
 om 9 8,
 oH 10 9 true 1 1 3,
 oG 11 9 true 1 false 10,
 oG 12 9 true 1 false 2,
 og 13 9 true (.bin .eql (.t 11) (.t 12)),
 oz 14 (.pick (.t 9) (.t 13) oD),
 om 4 14]
def f255:cD:=⟨3,15,[.t 4],.seq (.region f255.r0) (.seq (.region f255.r1) .ret)⟩
end Fw.X
