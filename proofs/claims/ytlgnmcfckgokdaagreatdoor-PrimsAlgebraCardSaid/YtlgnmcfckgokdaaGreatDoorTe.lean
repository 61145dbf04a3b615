/-
  Wrapping, validity and the scalar operations at any numbers.
-/
import Derived.Test.YtlgnmcfckgokdaaGreatDoorTc

set_option linter.unusedSimpArgs false
set_option maxRecDepth 1000000
set_option maxHeartbeats 2000000
namespace Fw.Tz
open Go Go.Proofs Fw.X
variable {W : World}
attribute [local simp] runO asData guardB eff evo get_cons put_cons put_nil stput_some stput_none happ binD binS binI eqV unV fillC putCells cellsV okC storeC hget hput nbeq nble loadC mkV mlist foldMM
def wr (x : Int) : Int := IntKind.wrap .i64 (IntKind.wrap .i32 x)
def w64 (x : Int) : Int := IntKind.wrap .i64 x
def tr (b : Bool) : Int := if b then 1 else 0
theorem pc74 (x : Int) : PC P (gl W) 74 [.d (.int .i64 x)] (.d (.int .i64 (wr x))) := by
  refine PC.body is74 ca74 (by simp [f74]) rfl ?_
  show WC P (gl W) (.seq (.region f74.r0) (.seq (.region f74.r1) .ret)) ⟨6, [(0, .d (.int .i64 x))], []⟩ _
  refine WC.seq ?_
  refine WC.reg (own := []) (by simp [f74.r0, runO]; rfl) ?_
  refine WC.seq ?_
  refine WC.reg (own := []) (by simp [f74.r1, runO]; rfl) ?_
  refine WC.ret ?_
  simp [resV, f74, mapO, resOne, get_cons, deepV, deepA, deepC, loadC, hget, mkV, nbeq, nble, deepFuel, wr]
theorem pc170 (b : Bool) : PC P (gl W) 170 [.d (.bool b)] (.d (.int .i64 (tr b))) := by
  cases b with
  | false =>
    refine PC.body is170 ca170 (by simp [f170]) rfl ?_
    show WC P (gl W) (.seq (.region f170.r0) (.seq (.seq (.region f170.r1) (.cond (.t 3) (.seq (.region f170.r2) .ret) .skip)) (.seq (.region f170.r3) .ret))) ⟨4, [(0, .d (.bool false))], []⟩ _
    refine WC.seq ?_
    refine WC.reg (own := []) (by simp [f170.r0, runO]; rfl) ?_
    refine WC.seq ?_
    refine WC.seq ?_
    refine WC.reg (own := []) (by simp [f170.r1, runO]; rfl) ?_
    refine WC.cond (t := false) (by simp [evo, get_cons]) ?_
    refine WC.skip ?_
    refine WC.seq ?_
    refine WC.reg (own := []) (by simp [f170.r3, runO]; rfl) ?_
    refine WC.ret ?_
    simp [resV, f170, mapO, resOne, get_cons, deepV, deepA, deepC, loadC, hget, mkV, nbeq, nble, deepFuel, tr]
  | true =>
    refine PC.body is170 ca170 (by simp [f170]) rfl ?_
    show WC P (gl W) (.seq (.region f170.r0) (.seq (.seq (.region f170.r1) (.cond (.t 3) (.seq (.region f170.r2) .ret) .skip)) (.seq (.region f170.r3) .ret))) ⟨4, [(0, .d (.bool true))], []⟩ _
    refine WC.seq ?_
    refine WC.reg (own := []) (by simp [f170.r0, runO]; rfl) ?_
    refine WC.seq ?_
    refine WC.seq ?_
    refine WC.reg (own := []) (by simp [f170.r1, runO]; rfl) ?_
    refine WC.cond (t := true) (by simp [evo, get_cons]) ?_
    refine WC.seq ?_
    refine WC.reg (own := []) (by simp [f170.r2, runO]; rfl) ?_
    refine WC.ret ?_
    simp [resV, f170, mapO, resOne, get_cons, deepV, deepA, deepC, loadC, hget, mkV, nbeq, nble, deepFuel, tr]
theorem pc119i {x : Int} (h1 : -2147483648 ≤ x) (h2 : x ≤ 2147483647) : PC P (gl W) 119 [.d (.str [105, 110, 116]), .d (.int .i64 x)] (.d (.bool true)) := by
  refine PC.body is119 ca119 (by simp [f119]) rfl ?_
  show WC P (gl W) (.seq (.region f119.r0) (.seq (.seq (.region f119.r1) (.cond (.t 6) (.seq (.region f119.r2) .ret) .skip)) (.seq (.region f119.r3) .ret))) ⟨23, [(0, .d (.str [105, 110, 116])), (1, .d (.int .i64 x))], []⟩ _
  refine WC.seq ?_
  refine WC.reg (own := []) (by simp [f119.r0, runO]; rfl) ?_
  refine WC.seq ?_
  refine WC.seq ?_
  refine WC.reg (own := []) (by simp [f119.r1, runO, (show Fw.bytesEq [105, 110, 116] [98, 111, 111, 108] = false from rfl)]; rfl) ?_
  refine WC.cond (t := false) (by simp [evo, get_cons]) ?_
  refine WC.skip ?_
  refine WC.seq ?_
  refine WC.reg (own := []) (by simp [f119.r3, runO, h1, h2, (show Fw.bytesEq [105, 110, 116] [105, 110, 116] = true from rfl)]; rfl) ?_
  refine WC.ret ?_
  simp [resV, f119, mapO, resOne, get_cons, deepV, deepA, deepC, loadC, hget, mkV, nbeq, nble, deepFuel]
theorem pc119b {x : Int} (h : x = 0 ∨ x = 1) : PC P (gl W) 119 [.d (.str [98, 111, 111, 108]), .d (.int .i64 x)] (.d (.bool true)) := by
  rcases h with rfl | rfl
  · refine PC.body is119 ca119 (by simp [f119]) rfl ?_
    show WC P (gl W) (.seq (.region f119.r0) (.seq (.seq (.region f119.r1) (.cond (.t 6) (.seq (.region f119.r2) .ret) .skip)) (.seq (.region f119.r3) .ret))) ⟨23, [(0, .d (.str [98, 111, 111, 108])), (1, .d (.int .i64 0))], []⟩ _
    refine WC.seq ?_
    refine WC.reg (own := []) (by simp [f119.r0, runO]; rfl) ?_
    refine WC.seq ?_
    refine WC.seq ?_
    refine WC.reg (own := []) (by simp [f119.r1, runO, (show Fw.bytesEq [98, 111, 111, 108] [98, 111, 111, 108] = true from rfl)]; rfl) ?_
    refine WC.cond (t := true) (by simp [evo, get_cons]) ?_
    refine WC.seq ?_
    refine WC.reg (own := []) (by simp [f119.r2, runO]; rfl) ?_
    refine WC.ret ?_
    simp [resV, f119, mapO, resOne, get_cons, deepV, deepA, deepC, loadC, hget, mkV, nbeq, nble, deepFuel]
  · refine PC.body is119 ca119 (by simp [f119]) rfl ?_
    show WC P (gl W) (.seq (.region f119.r0) (.seq (.seq (.region f119.r1) (.cond (.t 6) (.seq (.region f119.r2) .ret) .skip)) (.seq (.region f119.r3) .ret))) ⟨23, [(0, .d (.str [98, 111, 111, 108])), (1, .d (.int .i64 1))], []⟩ _
    refine WC.seq ?_
    refine WC.reg (own := []) (by simp [f119.r0, runO]; rfl) ?_
    refine WC.seq ?_
    refine WC.seq ?_
    refine WC.reg (own := []) (by simp [f119.r1, runO, (show Fw.bytesEq [98, 111, 111, 108] [98, 111, 111, 108] = true from rfl)]; rfl) ?_
    refine WC.cond (t := true) (by simp [evo, get_cons]) ?_
    refine WC.seq ?_
    refine WC.reg (own := []) (by simp [f119.r2, runO]; rfl) ?_
    refine WC.ret ?_
    simp [resV, f119, mapO, resOne, get_cons, deepV, deepA, deepC, loadC, hget, mkV, nbeq, nble, deepFuel]
theorem pc121add (a b : Int) : PC P (gl W) 121 [.d (.str [97, 100, 100]), .d (.int .i64 a), .d (.int .i64 b)] (.d (.int .i64 (wr (w64 (a + b))))) := by
  refine PC.body is121 ca121 (by simp [f121]) rfl ?_
  show WC P (gl W) (.seq (.region f121.r0) (.seq (.seq (.region f121.r1) (.block 0 (.seq (.region f121.r2) (.cond (.t 8) (.seq (.region f121.r3) .ret) (.seq (.region f121.r4) (.cond (.t 14) (.seq (.region f121.r5) .ret) (.seq (.region f121.r6) (.cond (.t 20) (.seq (.region f121.r7) .ret) (.seq (.region f121.r8) (.cond (.t 26) (.seq (.region f121.r9) .ret) (.seq (.region f121.r10) (.cond (.t 32) (.seq (.seq (.region f121.r11) (.cond (.t 35) (.seq (.region f121.r12) .ret) .skip)) (.seq (.region f121.r13) .ret)) (.seq (.region f121.r14) (.cond (.t 43) (.seq (.region f121.r15) .ret) (.seq (.region f121.r16) (.cond (.t 48) (.seq (.region f121.r17) .ret) (.seq (.region f121.r18) (.cond (.t 53) (.seq (.region f121.r19) .ret) (.seq (.region f121.r20) (.cond (.t 59) (.seq (.region f121.r21) .ret) (.seq (.region f121.r22) (.cond (.t 65) (.seq (.region f121.r23) .ret) (.seq (.region f121.r24) (.cond (.t 71) (.seq (.region f121.r25) .ret) (.seq (.region f121.r26) (.cond (.t 77) (.seq (.region f121.r27) .ret) (.seq (.seq (.region f121.r28) (.cond (.t 83) .skip (.region f121.r29))) (.cond (.t 83) (.seq (.region f121.r30) .ret) (.seq (.region f121.r31) (.cond (.t 90) (.seq (.region f121.r32) .ret) .skip)))))))))))))))))))))))))))))) (.seq (.region f121.r33) .ret))) ⟨98, [(0, .d (.str [97, 100, 100])), (1, .d (.int .i64 a)), (2, .d (.int .i64 b))], []⟩ _
  refine WC.seq ?_
  refine WC.reg (own := []) (by simp [f121.r0, runO]; rfl) ?_
  refine WC.seq ?_
  refine WC.seq ?_
  refine WC.reg (own := []) (by simp [f121.r1, runO]; rfl) ?_
  refine WC.block ?_
  refine WC.seq ?_
  refine WC.reg (own := []) (by simp [f121.r2, runO, (show Fw.bytesEq [97, 100, 100] [97, 100, 100] = true from rfl)]; rfl) ?_
  refine WC.cond (t := true) (by simp [evo, get_cons]) ?_
  refine WC.seq ?_
  refine WC.region ?_
  refine WO.preN 3 (own := []) noC_ok (by simp [f121.r3, runO]; rfl) ?_
  refine WO.callPC rfl rfl (pc74 _) (by simp [f121.r3, get_cons, put_cons, put_nil, stput_some]; rfl) ?_
  refine runO_ok (own := []) noC_ok (by simp [runO]; rfl) ?_
  refine WC.ret ?_
  simp [resV, f121, mapO, resOne, get_cons, deepV, deepA, deepC, loadC, hget, mkV, nbeq, nble, deepFuel, w64]
theorem pc121mul (a b : Int) : PC P (gl W) 121 [.d (.str [109, 117, 108]), .d (.int .i64 a), .d (.int .i64 b)] (.d (.int .i64 (wr (w64 (a * b))))) := by
  refine PC.body is121 ca121 (by simp [f121]) rfl ?_
  show WC P (gl W) (.seq (.region f121.r0) (.seq (.seq (.region f121.r1) (.block 0 (.seq (.region f121.r2) (.cond (.t 8) (.seq (.region f121.r3) .ret) (.seq (.region f121.r4) (.cond (.t 14) (.seq (.region f121.r5) .ret) (.seq (.region f121.r6) (.cond (.t 20) (.seq (.region f121.r7) .ret) (.seq (.region f121.r8) (.cond (.t 26) (.seq (.region f121.r9) .ret) (.seq (.region f121.r10) (.cond (.t 32) (.seq (.seq (.region f121.r11) (.cond (.t 35) (.seq (.region f121.r12) .ret) .skip)) (.seq (.region f121.r13) .ret)) (.seq (.region f121.r14) (.cond (.t 43) (.seq (.region f121.r15) .ret) (.seq (.region f121.r16) (.cond (.t 48) (.seq (.region f121.r17) .ret) (.seq (.region f121.r18) (.cond (.t 53) (.seq (.region f121.r19) .ret) (.seq (.region f121.r20) (.cond (.t 59) (.seq (.region f121.r21) .ret) (.seq (.region f121.r22) (.cond (.t 65) (.seq (.region f121.r23) .ret) (.seq (.region f121.r24) (.cond (.t 71) (.seq (.region f121.r25) .ret) (.seq (.region f121.r26) (.cond (.t 77) (.seq (.region f121.r27) .ret) (.seq (.seq (.region f121.r28) (.cond (.t 83) .skip (.region f121.r29))) (.cond (.t 83) (.seq (.region f121.r30) .ret) (.seq (.region f121.r31) (.cond (.t 90) (.seq (.region f121.r32) .ret) .skip)))))))))))))))))))))))))))))) (.seq (.region f121.r33) .ret))) ⟨98, [(0, .d (.str [109, 117, 108])), (1, .d (.int .i64 a)), (2, .d (.int .i64 b))], []⟩ _
  refine WC.seq ?_
  refine WC.reg (own := []) (by simp [f121.r0, runO]; rfl) ?_
  refine WC.seq ?_
  refine WC.seq ?_
  refine WC.reg (own := []) (by simp [f121.r1, runO]; rfl) ?_
  refine WC.block ?_
  refine WC.seq ?_
  refine WC.reg (own := []) (by simp [f121.r2, runO, (show Fw.bytesEq [109, 117, 108] [97, 100, 100] = false from rfl)]; rfl) ?_
  refine WC.cond (t := false) (by simp [evo, get_cons]) ?_
  refine WC.seq ?_
  refine WC.reg (own := []) (by simp [f121.r4, runO, (show Fw.bytesEq [109, 117, 108] [115, 117, 98] = false from rfl)]; rfl) ?_
  refine WC.cond (t := false) (by simp [evo, get_cons]) ?_
  refine WC.seq ?_
  refine WC.reg (own := []) (by simp [f121.r6, runO, (show Fw.bytesEq [109, 117, 108] [109, 117, 108] = true from rfl)]; rfl) ?_
  refine WC.cond (t := true) (by simp [evo, get_cons]) ?_
  refine WC.seq ?_
  refine WC.region ?_
  refine WO.preN 3 (own := []) noC_ok (by simp [f121.r7, runO]; rfl) ?_
  refine WO.callPC rfl rfl (pc74 _) (by simp [f121.r7, get_cons, put_cons, put_nil, stput_some]; rfl) ?_
  refine runO_ok (own := []) noC_ok (by simp [runO]; rfl) ?_
  refine WC.ret ?_
  simp [resV, f121, mapO, resOne, get_cons, deepV, deepA, deepC, loadC, hget, mkV, nbeq, nble, deepFuel, w64]
theorem pc121min (a b : Int) : PC P (gl W) 121 [.d (.str [109, 105, 110]), .d (.int .i64 a), .d (.int .i64 b)] (.d (.int .i64 (if b < a then b else a))) := by
  refine PC.body is121 ca121 (by simp [f121]) rfl ?_
  show WC P (gl W) (.seq (.region f121.r0) (.seq (.seq (.region f121.r1) (.block 0 (.seq (.region f121.r2) (.cond (.t 8) (.seq (.region f121.r3) .ret) (.seq (.region f121.r4) (.cond (.t 14) (.seq (.region f121.r5) .ret) (.seq (.region f121.r6) (.cond (.t 20) (.seq (.region f121.r7) .ret) (.seq (.region f121.r8) (.cond (.t 26) (.seq (.region f121.r9) .ret) (.seq (.region f121.r10) (.cond (.t 32) (.seq (.seq (.region f121.r11) (.cond (.t 35) (.seq (.region f121.r12) .ret) .skip)) (.seq (.region f121.r13) .ret)) (.seq (.region f121.r14) (.cond (.t 43) (.seq (.region f121.r15) .ret) (.seq (.region f121.r16) (.cond (.t 48) (.seq (.region f121.r17) .ret) (.seq (.region f121.r18) (.cond (.t 53) (.seq (.region f121.r19) .ret) (.seq (.region f121.r20) (.cond (.t 59) (.seq (.region f121.r21) .ret) (.seq (.region f121.r22) (.cond (.t 65) (.seq (.region f121.r23) .ret) (.seq (.region f121.r24) (.cond (.t 71) (.seq (.region f121.r25) .ret) (.seq (.region f121.r26) (.cond (.t 77) (.seq (.region f121.r27) .ret) (.seq (.seq (.region f121.r28) (.cond (.t 83) .skip (.region f121.r29))) (.cond (.t 83) (.seq (.region f121.r30) .ret) (.seq (.region f121.r31) (.cond (.t 90) (.seq (.region f121.r32) .ret) .skip)))))))))))))))))))))))))))))) (.seq (.region f121.r33) .ret))) ⟨98, [(0, .d (.str [109, 105, 110])), (1, .d (.int .i64 a)), (2, .d (.int .i64 b))], []⟩ _
  refine WC.seq ?_
  refine WC.reg (own := []) (by simp [f121.r0, runO]; rfl) ?_
  refine WC.seq ?_
  refine WC.seq ?_
  refine WC.reg (own := []) (by simp [f121.r1, runO]; rfl) ?_
  refine WC.block ?_
  refine WC.seq ?_
  refine WC.reg (own := []) (by simp [f121.r2, runO, (show Fw.bytesEq [109, 105, 110] [97, 100, 100] = false from rfl)]; rfl) ?_
  refine WC.cond (t := false) (by simp [evo, get_cons]) ?_
  refine WC.seq ?_
  refine WC.reg (own := []) (by simp [f121.r4, runO, (show Fw.bytesEq [109, 105, 110] [115, 117, 98] = false from rfl)]; rfl) ?_
  refine WC.cond (t := false) (by simp [evo, get_cons]) ?_
  refine WC.seq ?_
  refine WC.reg (own := []) (by simp [f121.r6, runO, (show Fw.bytesEq [109, 105, 110] [109, 117, 108] = false from rfl)]; rfl) ?_
  refine WC.cond (t := false) (by simp [evo, get_cons]) ?_
  refine WC.seq ?_
  refine WC.reg (own := []) (by simp [f121.r8, runO, (show Fw.bytesEq [109, 105, 110] [100, 105, 118] = false from rfl)]; rfl) ?_
  refine WC.cond (t := false) (by simp [evo, get_cons]) ?_
  refine WC.seq ?_
  refine WC.reg (own := []) (by simp [f121.r10, runO, (show Fw.bytesEq [109, 105, 110] [109, 111, 100] = false from rfl)]; rfl) ?_
  refine WC.cond (t := false) (by simp [evo, get_cons]) ?_
  refine WC.seq ?_
  refine WC.reg (own := []) (by simp [f121.r14, runO, (show Fw.bytesEq [109, 105, 110] [109, 105, 110] = true from rfl)]; rfl) ?_
  refine WC.cond (t := true) (by simp [evo, get_cons]) ?_
  refine WC.seq ?_
  refine WC.reg (own := []) (by simp [f121.r15, runO]; rfl) ?_
  refine WC.ret ?_
  simp [resV, f121, mapO, resOne, get_cons, deepV, deepA, deepC, loadC, hget, mkV, nbeq, nble, deepFuel, w64]
theorem pc121max (a b : Int) : PC P (gl W) 121 [.d (.str [109, 97, 120]), .d (.int .i64 a), .d (.int .i64 b)] (.d (.int .i64 (if a < b then b else a))) := by
  refine PC.body is121 ca121 (by simp [f121]) rfl ?_
  show WC P (gl W) (.seq (.region f121.r0) (.seq (.seq (.region f121.r1) (.block 0 (.seq (.region f121.r2) (.cond (.t 8) (.seq (.region f121.r3) .ret) (.seq (.region f121.r4) (.cond (.t 14) (.seq (.region f121.r5) .ret) (.seq (.region f121.r6) (.cond (.t 20) (.seq (.region f121.r7) .ret) (.seq (.region f121.r8) (.cond (.t 26) (.seq (.region f121.r9) .ret) (.seq (.region f121.r10) (.cond (.t 32) (.seq (.seq (.region f121.r11) (.cond (.t 35) (.seq (.region f121.r12) .ret) .skip)) (.seq (.region f121.r13) .ret)) (.seq (.region f121.r14) (.cond (.t 43) (.seq (.region f121.r15) .ret) (.seq (.region f121.r16) (.cond (.t 48) (.seq (.region f121.r17) .ret) (.seq (.region f121.r18) (.cond (.t 53) (.seq (.region f121.r19) .ret) (.seq (.region f121.r20) (.cond (.t 59) (.seq (.region f121.r21) .ret) (.seq (.region f121.r22) (.cond (.t 65) (.seq (.region f121.r23) .ret) (.seq (.region f121.r24) (.cond (.t 71) (.seq (.region f121.r25) .ret) (.seq (.region f121.r26) (.cond (.t 77) (.seq (.region f121.r27) .ret) (.seq (.seq (.region f121.r28) (.cond (.t 83) .skip (.region f121.r29))) (.cond (.t 83) (.seq (.region f121.r30) .ret) (.seq (.region f121.r31) (.cond (.t 90) (.seq (.region f121.r32) .ret) .skip)))))))))))))))))))))))))))))) (.seq (.region f121.r33) .ret))) ⟨98, [(0, .d (.str [109, 97, 120])), (1, .d (.int .i64 a)), (2, .d (.int .i64 b))], []⟩ _
  refine WC.seq ?_
  refine WC.reg (own := []) (by simp [f121.r0, runO]; rfl) ?_
  refine WC.seq ?_
  refine WC.seq ?_
  refine WC.reg (own := []) (by simp [f121.r1, runO]; rfl) ?_
  refine WC.block ?_
  refine WC.seq ?_
  refine WC.reg (own := []) (by simp [f121.r2, runO, (show Fw.bytesEq [109, 97, 120] [97, 100, 100] = false from rfl)]; rfl) ?_
  refine WC.cond (t := false) (by simp [evo, get_cons]) ?_
  refine WC.seq ?_
  refine WC.reg (own := []) (by simp [f121.r4, runO, (show Fw.bytesEq [109, 97, 120] [115, 117, 98] = false from rfl)]; rfl) ?_
  refine WC.cond (t := false) (by simp [evo, get_cons]) ?_
  refine WC.seq ?_
  refine WC.reg (own := []) (by simp [f121.r6, runO, (show Fw.bytesEq [109, 97, 120] [109, 117, 108] = false from rfl)]; rfl) ?_
  refine WC.cond (t := false) (by simp [evo, get_cons]) ?_
  refine WC.seq ?_
  refine WC.reg (own := []) (by simp [f121.r8, runO, (show Fw.bytesEq [109, 97, 120] [100, 105, 118] = false from rfl)]; rfl) ?_
  refine WC.cond (t := false) (by simp [evo, get_cons]) ?_
  refine WC.seq ?_
  refine WC.reg (own := []) (by simp [f121.r10, runO, (show Fw.bytesEq [109, 97, 120] [109, 111, 100] = false from rfl)]; rfl) ?_
  refine WC.cond (t := false) (by simp [evo, get_cons]) ?_
  refine WC.seq ?_
  refine WC.reg (own := []) (by simp [f121.r14, runO, (show Fw.bytesEq [109, 97, 120] [109, 105, 110] = false from rfl)]; rfl) ?_
  refine WC.cond (t := false) (by simp [evo, get_cons]) ?_
  refine WC.seq ?_
  refine WC.reg (own := []) (by simp [f121.r16, runO, (show Fw.bytesEq [109, 97, 120] [109, 97, 120] = true from rfl)]; rfl) ?_
  refine WC.cond (t := true) (by simp [evo, get_cons]) ?_
  refine WC.seq ?_
  refine WC.reg (own := []) (by simp [f121.r17, runO]; rfl) ?_
  refine WC.ret ?_
  simp [resV, f121, mapO, resOne, get_cons, deepV, deepA, deepC, loadC, hget, mkV, nbeq, nble, deepFuel, w64]
theorem pc121eq (a b : Int) : PC P (gl W) 121 [.d (.str [101, 113]), .d (.int .i64 a), .d (.int .i64 b)] (.d (.int .i64 (tr (a == b)))) := by
  refine PC.body is121 ca121 (by simp [f121]) rfl ?_
  show WC P (gl W) (.seq (.region f121.r0) (.seq (.seq (.region f121.r1) (.block 0 (.seq (.region f121.r2) (.cond (.t 8) (.seq (.region f121.r3) .ret) (.seq (.region f121.r4) (.cond (.t 14) (.seq (.region f121.r5) .ret) (.seq (.region f121.r6) (.cond (.t 20) (.seq (.region f121.r7) .ret) (.seq (.region f121.r8) (.cond (.t 26) (.seq (.region f121.r9) .ret) (.seq (.region f121.r10) (.cond (.t 32) (.seq (.seq (.region f121.r11) (.cond (.t 35) (.seq (.region f121.r12) .ret) .skip)) (.seq (.region f121.r13) .ret)) (.seq (.region f121.r14) (.cond (.t 43) (.seq (.region f121.r15) .ret) (.seq (.region f121.r16) (.cond (.t 48) (.seq (.region f121.r17) .ret) (.seq (.region f121.r18) (.cond (.t 53) (.seq (.region f121.r19) .ret) (.seq (.region f121.r20) (.cond (.t 59) (.seq (.region f121.r21) .ret) (.seq (.region f121.r22) (.cond (.t 65) (.seq (.region f121.r23) .ret) (.seq (.region f121.r24) (.cond (.t 71) (.seq (.region f121.r25) .ret) (.seq (.region f121.r26) (.cond (.t 77) (.seq (.region f121.r27) .ret) (.seq (.seq (.region f121.r28) (.cond (.t 83) .skip (.region f121.r29))) (.cond (.t 83) (.seq (.region f121.r30) .ret) (.seq (.region f121.r31) (.cond (.t 90) (.seq (.region f121.r32) .ret) .skip)))))))))))))))))))))))))))))) (.seq (.region f121.r33) .ret))) ⟨98, [(0, .d (.str [101, 113])), (1, .d (.int .i64 a)), (2, .d (.int .i64 b))], []⟩ _
  refine WC.seq ?_
  refine WC.reg (own := []) (by simp [f121.r0, runO]; rfl) ?_
  refine WC.seq ?_
  refine WC.seq ?_
  refine WC.reg (own := []) (by simp [f121.r1, runO]; rfl) ?_
  refine WC.block ?_
  refine WC.seq ?_
  refine WC.reg (own := []) (by simp [f121.r2, runO, (show Fw.bytesEq [101, 113] [97, 100, 100] = false from rfl)]; rfl) ?_
  refine WC.cond (t := false) (by simp [evo, get_cons]) ?_
  refine WC.seq ?_
  refine WC.reg (own := []) (by simp [f121.r4, runO, (show Fw.bytesEq [101, 113] [115, 117, 98] = false from rfl)]; rfl) ?_
  refine WC.cond (t := false) (by simp [evo, get_cons]) ?_
  refine WC.seq ?_
  refine WC.reg (own := []) (by simp [f121.r6, runO, (show Fw.bytesEq [101, 113] [109, 117, 108] = false from rfl)]; rfl) ?_
  refine WC.cond (t := false) (by simp [evo, get_cons]) ?_
  refine WC.seq ?_
  refine WC.reg (own := []) (by simp [f121.r8, runO, (show Fw.bytesEq [101, 113] [100, 105, 118] = false from rfl)]; rfl) ?_
  refine WC.cond (t := false) (by simp [evo, get_cons]) ?_
  refine WC.seq ?_
  refine WC.reg (own := []) (by simp [f121.r10, runO, (show Fw.bytesEq [101, 113] [109, 111, 100] = false from rfl)]; rfl) ?_
  refine WC.cond (t := false) (by simp [evo, get_cons]) ?_
  refine WC.seq ?_
  refine WC.reg (own := []) (by simp [f121.r14, runO, (show Fw.bytesEq [101, 113] [109, 105, 110] = false from rfl)]; rfl) ?_
  refine WC.cond (t := false) (by simp [evo, get_cons]) ?_
  refine WC.seq ?_
  refine WC.reg (own := []) (by simp [f121.r16, runO, (show Fw.bytesEq [101, 113] [109, 97, 120] = false from rfl)]; rfl) ?_
  refine WC.cond (t := false) (by simp [evo, get_cons]) ?_
  refine WC.seq ?_
  refine WC.reg (own := []) (by simp [f121.r18, runO, (show Fw.bytesEq [101, 113] [108, 116] = false from rfl)]; rfl) ?_
  refine WC.cond (t := false) (by simp [evo, get_cons]) ?_
  refine WC.seq ?_
  refine WC.reg (own := []) (by simp [f121.r20, runO, (show Fw.bytesEq [101, 113] [108, 101] = false from rfl)]; rfl) ?_
  refine WC.cond (t := false) (by simp [evo, get_cons]) ?_
  refine WC.seq ?_
  refine WC.reg (own := []) (by simp [f121.r22, runO, (show Fw.bytesEq [101, 113] [103, 116] = false from rfl)]; rfl) ?_
  refine WC.cond (t := false) (by simp [evo, get_cons]) ?_
  refine WC.seq ?_
  refine WC.reg (own := []) (by simp [f121.r24, runO, (show Fw.bytesEq [101, 113] [103, 101] = false from rfl)]; rfl) ?_
  refine WC.cond (t := false) (by simp [evo, get_cons]) ?_
  refine WC.seq ?_
  refine WC.reg (own := []) (by simp [f121.r26, runO, (show Fw.bytesEq [101, 113] [101, 113] = true from rfl)]; rfl) ?_
  refine WC.cond (t := true) (by simp [evo, get_cons]) ?_
  refine WC.seq ?_
  refine WC.region ?_
  refine WO.preN 3 (own := []) noC_ok (by simp [f121.r27, runO]; rfl) ?_
  refine WO.callPC rfl rfl (pc170 _) (by simp [f121.r27, get_cons, put_cons, put_nil, stput_some]; rfl) ?_
  refine runO_ok (own := []) noC_ok (by simp [runO]; rfl) ?_
  refine WC.ret ?_
  simp [resV, f121, mapO, resOne, get_cons, deepV, deepA, deepC, loadC, hget, mkV, nbeq, nble, deepFuel, w64]
theorem pc121ne (a b : Int) : PC P (gl W) 121 [.d (.str [110, 101]), .d (.int .i64 a), .d (.int .i64 b)] (.d (.int .i64 (tr (a != b)))) := by
  refine PC.body is121 ca121 (by simp [f121]) rfl ?_
  show WC P (gl W) (.seq (.region f121.r0) (.seq (.seq (.region f121.r1) (.block 0 (.seq (.region f121.r2) (.cond (.t 8) (.seq (.region f121.r3) .ret) (.seq (.region f121.r4) (.cond (.t 14) (.seq (.region f121.r5) .ret) (.seq (.region f121.r6) (.cond (.t 20) (.seq (.region f121.r7) .ret) (.seq (.region f121.r8) (.cond (.t 26) (.seq (.region f121.r9) .ret) (.seq (.region f121.r10) (.cond (.t 32) (.seq (.seq (.region f121.r11) (.cond (.t 35) (.seq (.region f121.r12) .ret) .skip)) (.seq (.region f121.r13) .ret)) (.seq (.region f121.r14) (.cond (.t 43) (.seq (.region f121.r15) .ret) (.seq (.region f121.r16) (.cond (.t 48) (.seq (.region f121.r17) .ret) (.seq (.region f121.r18) (.cond (.t 53) (.seq (.region f121.r19) .ret) (.seq (.region f121.r20) (.cond (.t 59) (.seq (.region f121.r21) .ret) (.seq (.region f121.r22) (.cond (.t 65) (.seq (.region f121.r23) .ret) (.seq (.region f121.r24) (.cond (.t 71) (.seq (.region f121.r25) .ret) (.seq (.region f121.r26) (.cond (.t 77) (.seq (.region f121.r27) .ret) (.seq (.seq (.region f121.r28) (.cond (.t 83) .skip (.region f121.r29))) (.cond (.t 83) (.seq (.region f121.r30) .ret) (.seq (.region f121.r31) (.cond (.t 90) (.seq (.region f121.r32) .ret) .skip)))))))))))))))))))))))))))))) (.seq (.region f121.r33) .ret))) ⟨98, [(0, .d (.str [110, 101])), (1, .d (.int .i64 a)), (2, .d (.int .i64 b))], []⟩ _
  refine WC.seq ?_
  refine WC.reg (own := []) (by simp [f121.r0, runO]; rfl) ?_
  refine WC.seq ?_
  refine WC.seq ?_
  refine WC.reg (own := []) (by simp [f121.r1, runO]; rfl) ?_
  refine WC.block ?_
  refine WC.seq ?_
  refine WC.reg (own := []) (by simp [f121.r2, runO, (show Fw.bytesEq [110, 101] [97, 100, 100] = false from rfl)]; rfl) ?_
  refine WC.cond (t := false) (by simp [evo, get_cons]) ?_
  refine WC.seq ?_
  refine WC.reg (own := []) (by simp [f121.r4, runO, (show Fw.bytesEq [110, 101] [115, 117, 98] = false from rfl)]; rfl) ?_
  refine WC.cond (t := false) (by simp [evo, get_cons]) ?_
  refine WC.seq ?_
  refine WC.reg (own := []) (by simp [f121.r6, runO, (show Fw.bytesEq [110, 101] [109, 117, 108] = false from rfl)]; rfl) ?_
  refine WC.cond (t := false) (by simp [evo, get_cons]) ?_
  refine WC.seq ?_
  refine WC.reg (own := []) (by simp [f121.r8, runO, (show Fw.bytesEq [110, 101] [100, 105, 118] = false from rfl)]; rfl) ?_
  refine WC.cond (t := false) (by simp [evo, get_cons]) ?_
  refine WC.seq ?_
  refine WC.reg (own := []) (by simp [f121.r10, runO, (show Fw.bytesEq [110, 101] [109, 111, 100] = false from rfl)]; rfl) ?_
  refine WC.cond (t := false) (by simp [evo, get_cons]) ?_
  refine WC.seq ?_
  refine WC.reg (own := []) (by simp [f121.r14, runO, (show Fw.bytesEq [110, 101] [109, 105, 110] = false from rfl)]; rfl) ?_
  refine WC.cond (t := false) (by simp [evo, get_cons]) ?_
  refine WC.seq ?_
  refine WC.reg (own := []) (by simp [f121.r16, runO, (show Fw.bytesEq [110, 101] [109, 97, 120] = false from rfl)]; rfl) ?_
  refine WC.cond (t := false) (by simp [evo, get_cons]) ?_
  refine WC.seq ?_
  refine WC.reg (own := []) (by simp [f121.r18, runO, (show Fw.bytesEq [110, 101] [108, 116] = false from rfl)]; rfl) ?_
  refine WC.cond (t := false) (by simp [evo, get_cons]) ?_
  refine WC.seq ?_
  refine WC.reg (own := []) (by simp [f121.r20, runO, (show Fw.bytesEq [110, 101] [108, 101] = false from rfl)]; rfl) ?_
  refine WC.cond (t := false) (by simp [evo, get_cons]) ?_
  refine WC.seq ?_
  refine WC.reg (own := []) (by simp [f121.r22, runO, (show Fw.bytesEq [110, 101] [103, 116] = false from rfl)]; rfl) ?_
  refine WC.cond (t := false) (by simp [evo, get_cons]) ?_
  refine WC.seq ?_
  refine WC.reg (own := []) (by simp [f121.r24, runO, (show Fw.bytesEq [110, 101] [103, 101] = false from rfl)]; rfl) ?_
  refine WC.cond (t := false) (by simp [evo, get_cons]) ?_
  refine WC.seq ?_
  refine WC.reg (own := []) (by simp [f121.r26, runO, (show Fw.bytesEq [110, 101] [101, 113] = false from rfl)]; rfl) ?_
  refine WC.cond (t := false) (by simp [evo, get_cons]) ?_
  refine WC.seq ?_
  refine WC.seq ?_
  refine WC.reg (own := []) (by simp [f121.r28, runO, (show Fw.bytesEq [110, 101] [110, 101] = true from rfl)]; rfl) ?_
  refine WC.cond (t := true) (by simp [evo, get_cons]) ?_
  refine WC.skip ?_
  refine WC.cond (t := true) (by simp [evo, get_cons]) ?_
  refine WC.seq ?_
  refine WC.region ?_
  refine WO.preN 3 (own := []) noC_ok (by simp [f121.r30, runO]; rfl) ?_
  refine WO.callPC rfl rfl (pc170 _) (by simp [f121.r30, get_cons, put_cons, put_nil, stput_some]; rfl) ?_
  refine runO_ok (own := []) noC_ok (by simp [runO]; rfl) ?_
  refine WC.ret ?_
  simp [resV, f121, mapO, resOne, get_cons, deepV, deepA, deepC, loadC, hget, mkV, nbeq, nble, deepFuel, w64]
theorem pc121xor (a b : Int) : PC P (gl W) 121 [.d (.str [120, 111, 114]), .d (.int .i64 a), .d (.int .i64 b)] (.d (.int .i64 (tr (a != b)))) := by
  refine PC.body is121 ca121 (by simp [f121]) rfl ?_
  show WC P (gl W) (.seq (.region f121.r0) (.seq (.seq (.region f121.r1) (.block 0 (.seq (.region f121.r2) (.cond (.t 8) (.seq (.region f121.r3) .ret) (.seq (.region f121.r4) (.cond (.t 14) (.seq (.region f121.r5) .ret) (.seq (.region f121.r6) (.cond (.t 20) (.seq (.region f121.r7) .ret) (.seq (.region f121.r8) (.cond (.t 26) (.seq (.region f121.r9) .ret) (.seq (.region f121.r10) (.cond (.t 32) (.seq (.seq (.region f121.r11) (.cond (.t 35) (.seq (.region f121.r12) .ret) .skip)) (.seq (.region f121.r13) .ret)) (.seq (.region f121.r14) (.cond (.t 43) (.seq (.region f121.r15) .ret) (.seq (.region f121.r16) (.cond (.t 48) (.seq (.region f121.r17) .ret) (.seq (.region f121.r18) (.cond (.t 53) (.seq (.region f121.r19) .ret) (.seq (.region f121.r20) (.cond (.t 59) (.seq (.region f121.r21) .ret) (.seq (.region f121.r22) (.cond (.t 65) (.seq (.region f121.r23) .ret) (.seq (.region f121.r24) (.cond (.t 71) (.seq (.region f121.r25) .ret) (.seq (.region f121.r26) (.cond (.t 77) (.seq (.region f121.r27) .ret) (.seq (.seq (.region f121.r28) (.cond (.t 83) .skip (.region f121.r29))) (.cond (.t 83) (.seq (.region f121.r30) .ret) (.seq (.region f121.r31) (.cond (.t 90) (.seq (.region f121.r32) .ret) .skip)))))))))))))))))))))))))))))) (.seq (.region f121.r33) .ret))) ⟨98, [(0, .d (.str [120, 111, 114])), (1, .d (.int .i64 a)), (2, .d (.int .i64 b))], []⟩ _
  refine WC.seq ?_
  refine WC.reg (own := []) (by simp [f121.r0, runO]; rfl) ?_
  refine WC.seq ?_
  refine WC.seq ?_
  refine WC.reg (own := []) (by simp [f121.r1, runO]; rfl) ?_
  refine WC.block ?_
  refine WC.seq ?_
  refine WC.reg (own := []) (by simp [f121.r2, runO, (show Fw.bytesEq [120, 111, 114] [97, 100, 100] = false from rfl)]; rfl) ?_
  refine WC.cond (t := false) (by simp [evo, get_cons]) ?_
  refine WC.seq ?_
  refine WC.reg (own := []) (by simp [f121.r4, runO, (show Fw.bytesEq [120, 111, 114] [115, 117, 98] = false from rfl)]; rfl) ?_
  refine WC.cond (t := false) (by simp [evo, get_cons]) ?_
  refine WC.seq ?_
  refine WC.reg (own := []) (by simp [f121.r6, runO, (show Fw.bytesEq [120, 111, 114] [109, 117, 108] = false from rfl)]; rfl) ?_
  refine WC.cond (t := false) (by simp [evo, get_cons]) ?_
  refine WC.seq ?_
  refine WC.reg (own := []) (by simp [f121.r8, runO, (show Fw.bytesEq [120, 111, 114] [100, 105, 118] = false from rfl)]; rfl) ?_
  refine WC.cond (t := false) (by simp [evo, get_cons]) ?_
  refine WC.seq ?_
  refine WC.reg (own := []) (by simp [f121.r10, runO, (show Fw.bytesEq [120, 111, 114] [109, 111, 100] = false from rfl)]; rfl) ?_
  refine WC.cond (t := false) (by simp [evo, get_cons]) ?_
  refine WC.seq ?_
  refine WC.reg (own := []) (by simp [f121.r14, runO, (show Fw.bytesEq [120, 111, 114] [109, 105, 110] = false from rfl)]; rfl) ?_
  refine WC.cond (t := false) (by simp [evo, get_cons]) ?_
  refine WC.seq ?_
  refine WC.reg (own := []) (by simp [f121.r16, runO, (show Fw.bytesEq [120, 111, 114] [109, 97, 120] = false from rfl)]; rfl) ?_
  refine WC.cond (t := false) (by simp [evo, get_cons]) ?_
  refine WC.seq ?_
  refine WC.reg (own := []) (by simp [f121.r18, runO, (show Fw.bytesEq [120, 111, 114] [108, 116] = false from rfl)]; rfl) ?_
  refine WC.cond (t := false) (by simp [evo, get_cons]) ?_
  refine WC.seq ?_
  refine WC.reg (own := []) (by simp [f121.r20, runO, (show Fw.bytesEq [120, 111, 114] [108, 101] = false from rfl)]; rfl) ?_
  refine WC.cond (t := false) (by simp [evo, get_cons]) ?_
  refine WC.seq ?_
  refine WC.reg (own := []) (by simp [f121.r22, runO, (show Fw.bytesEq [120, 111, 114] [103, 116] = false from rfl)]; rfl) ?_
  refine WC.cond (t := false) (by simp [evo, get_cons]) ?_
  refine WC.seq ?_
  refine WC.reg (own := []) (by simp [f121.r24, runO, (show Fw.bytesEq [120, 111, 114] [103, 101] = false from rfl)]; rfl) ?_
  refine WC.cond (t := false) (by simp [evo, get_cons]) ?_
  refine WC.seq ?_
  refine WC.reg (own := []) (by simp [f121.r26, runO, (show Fw.bytesEq [120, 111, 114] [101, 113] = false from rfl)]; rfl) ?_
  refine WC.cond (t := false) (by simp [evo, get_cons]) ?_
  refine WC.seq ?_
  refine WC.seq ?_
  refine WC.reg (own := []) (by simp [f121.r28, runO, (show Fw.bytesEq [120, 111, 114] [110, 101] = false from rfl)]; rfl) ?_
  refine WC.cond (t := false) (by simp [evo, get_cons]) ?_
  refine WC.reg (own := []) (by simp [f121.r29, runO, (show Fw.bytesEq [120, 111, 114] [120, 111, 114] = true from rfl)]; rfl) ?_
  refine WC.cond (t := true) (by simp [evo, get_cons]) ?_
  refine WC.seq ?_
  refine WC.region ?_
  refine WO.preN 3 (own := []) noC_ok (by simp [f121.r30, runO]; rfl) ?_
  refine WO.callPC rfl rfl (pc170 _) (by simp [f121.r30, get_cons, put_cons, put_nil, stput_some]; rfl) ?_
  refine runO_ok (own := []) noC_ok (by simp [runO]; rfl) ?_
  refine WC.ret ?_
  simp [resV, f121, mapO, resOne, get_cons, deepV, deepA, deepC, loadC, hget, mkV, nbeq, nble, deepFuel, w64]
theorem pc121and (a b : Int) : PC P (gl W) 121 [.d (.str [97, 110, 100]), .d (.int .i64 a), .d (.int .i64 b)] (.d (.int .i64 (w64 (a * b)))) := by
  refine PC.body is121 ca121 (by simp [f121]) rfl ?_
  show WC P (gl W) (.seq (.region f121.r0) (.seq (.seq (.region f121.r1) (.block 0 (.seq (.region f121.r2) (.cond (.t 8) (.seq (.region f121.r3) .ret) (.seq (.region f121.r4) (.cond (.t 14) (.seq (.region f121.r5) .ret) (.seq (.region f121.r6) (.cond (.t 20) (.seq (.region f121.r7) .ret) (.seq (.region f121.r8) (.cond (.t 26) (.seq (.region f121.r9) .ret) (.seq (.region f121.r10) (.cond (.t 32) (.seq (.seq (.region f121.r11) (.cond (.t 35) (.seq (.region f121.r12) .ret) .skip)) (.seq (.region f121.r13) .ret)) (.seq (.region f121.r14) (.cond (.t 43) (.seq (.region f121.r15) .ret) (.seq (.region f121.r16) (.cond (.t 48) (.seq (.region f121.r17) .ret) (.seq (.region f121.r18) (.cond (.t 53) (.seq (.region f121.r19) .ret) (.seq (.region f121.r20) (.cond (.t 59) (.seq (.region f121.r21) .ret) (.seq (.region f121.r22) (.cond (.t 65) (.seq (.region f121.r23) .ret) (.seq (.region f121.r24) (.cond (.t 71) (.seq (.region f121.r25) .ret) (.seq (.region f121.r26) (.cond (.t 77) (.seq (.region f121.r27) .ret) (.seq (.seq (.region f121.r28) (.cond (.t 83) .skip (.region f121.r29))) (.cond (.t 83) (.seq (.region f121.r30) .ret) (.seq (.region f121.r31) (.cond (.t 90) (.seq (.region f121.r32) .ret) .skip)))))))))))))))))))))))))))))) (.seq (.region f121.r33) .ret))) ⟨98, [(0, .d (.str [97, 110, 100])), (1, .d (.int .i64 a)), (2, .d (.int .i64 b))], []⟩ _
  refine WC.seq ?_
  refine WC.reg (own := []) (by simp [f121.r0, runO]; rfl) ?_
  refine WC.seq ?_
  refine WC.seq ?_
  refine WC.reg (own := []) (by simp [f121.r1, runO]; rfl) ?_
  refine WC.block ?_
  refine WC.seq ?_
  refine WC.reg (own := []) (by simp [f121.r2, runO, (show Fw.bytesEq [97, 110, 100] [97, 100, 100] = false from rfl)]; rfl) ?_
  refine WC.cond (t := false) (by simp [evo, get_cons]) ?_
  refine WC.seq ?_
  refine WC.reg (own := []) (by simp [f121.r4, runO, (show Fw.bytesEq [97, 110, 100] [115, 117, 98] = false from rfl)]; rfl) ?_
  refine WC.cond (t := false) (by simp [evo, get_cons]) ?_
  refine WC.seq ?_
  refine WC.reg (own := []) (by simp [f121.r6, runO, (show Fw.bytesEq [97, 110, 100] [109, 117, 108] = false from rfl)]; rfl) ?_
  refine WC.cond (t := false) (by simp [evo, get_cons]) ?_
  refine WC.seq ?_
  refine WC.reg (own := []) (by simp [f121.r8, runO, (show Fw.bytesEq [97, 110, 100] [100, 105, 118] = false from rfl)]; rfl) ?_
  refine WC.cond (t := false) (by simp [evo, get_cons]) ?_
  refine WC.seq ?_
  refine WC.reg (own := []) (by simp [f121.r10, runO, (show Fw.bytesEq [97, 110, 100] [109, 111, 100] = false from rfl)]; rfl) ?_
  refine WC.cond (t := false) (by simp [evo, get_cons]) ?_
  refine WC.seq ?_
  refine WC.reg (own := []) (by simp [f121.r14, runO, (show Fw.bytesEq [97, 110, 100] [109, 105, 110] = false from rfl)]; rfl) ?_
  refine WC.cond (t := false) (by simp [evo, get_cons]) ?_
  refine WC.seq ?_
  refine WC.reg (own := []) (by simp [f121.r16, runO, (show Fw.bytesEq [97, 110, 100] [109, 97, 120] = false from rfl)]; rfl) ?_
  refine WC.cond (t := false) (by simp [evo, get_cons]) ?_
  refine WC.seq ?_
  refine WC.reg (own := []) (by simp [f121.r18, runO, (show Fw.bytesEq [97, 110, 100] [108, 116] = false from rfl)]; rfl) ?_
  refine WC.cond (t := false) (by simp [evo, get_cons]) ?_
  refine WC.seq ?_
  refine WC.reg (own := []) (by simp [f121.r20, runO, (show Fw.bytesEq [97, 110, 100] [108, 101] = false from rfl)]; rfl) ?_
  refine WC.cond (t := false) (by simp [evo, get_cons]) ?_
  refine WC.seq ?_
  refine WC.reg (own := []) (by simp [f121.r22, runO, (show Fw.bytesEq [97, 110, 100] [103, 116] = false from rfl)]; rfl) ?_
  refine WC.cond (t := false) (by simp [evo, get_cons]) ?_
  refine WC.seq ?_
  refine WC.reg (own := []) (by simp [f121.r24, runO, (show Fw.bytesEq [97, 110, 100] [103, 101] = false from rfl)]; rfl) ?_
  refine WC.cond (t := false) (by simp [evo, get_cons]) ?_
  refine WC.seq ?_
  refine WC.reg (own := []) (by simp [f121.r26, runO, (show Fw.bytesEq [97, 110, 100] [101, 113] = false from rfl)]; rfl) ?_
  refine WC.cond (t := false) (by simp [evo, get_cons]) ?_
  refine WC.seq ?_
  refine WC.seq ?_
  refine WC.reg (own := []) (by simp [f121.r28, runO, (show Fw.bytesEq [97, 110, 100] [110, 101] = false from rfl)]; rfl) ?_
  refine WC.cond (t := false) (by simp [evo, get_cons]) ?_
  refine WC.reg (own := []) (by simp [f121.r29, runO, (show Fw.bytesEq [97, 110, 100] [120, 111, 114] = false from rfl)]; rfl) ?_
  refine WC.cond (t := false) (by simp [evo, get_cons]) ?_
  refine WC.seq ?_
  refine WC.reg (own := []) (by simp [f121.r31, runO, (show Fw.bytesEq [97, 110, 100] [97, 110, 100] = true from rfl)]; rfl) ?_
  refine WC.cond (t := true) (by simp [evo, get_cons]) ?_
  refine WC.seq ?_
  refine WC.reg (own := []) (by simp [f121.r32, runO]; rfl) ?_
  refine WC.ret ?_
  simp [resV, f121, mapO, resOne, get_cons, deepV, deepA, deepC, loadC, hget, mkV, nbeq, nble, deepFuel, w64]
theorem pc121or (a b : Int) : PC P (gl W) 121 [.d (.str [111, 114]), .d (.int .i64 a), .d (.int .i64 b)] (.d (.int .i64 (if a < b then b else a))) := by
  refine PC.body is121 ca121 (by simp [f121]) rfl ?_
  show WC P (gl W) (.seq (.region f121.r0) (.seq (.seq (.region f121.r1) (.block 0 (.seq (.region f121.r2) (.cond (.t 8) (.seq (.region f121.r3) .ret) (.seq (.region f121.r4) (.cond (.t 14) (.seq (.region f121.r5) .ret) (.seq (.region f121.r6) (.cond (.t 20) (.seq (.region f121.r7) .ret) (.seq (.region f121.r8) (.cond (.t 26) (.seq (.region f121.r9) .ret) (.seq (.region f121.r10) (.cond (.t 32) (.seq (.seq (.region f121.r11) (.cond (.t 35) (.seq (.region f121.r12) .ret) .skip)) (.seq (.region f121.r13) .ret)) (.seq (.region f121.r14) (.cond (.t 43) (.seq (.region f121.r15) .ret) (.seq (.region f121.r16) (.cond (.t 48) (.seq (.region f121.r17) .ret) (.seq (.region f121.r18) (.cond (.t 53) (.seq (.region f121.r19) .ret) (.seq (.region f121.r20) (.cond (.t 59) (.seq (.region f121.r21) .ret) (.seq (.region f121.r22) (.cond (.t 65) (.seq (.region f121.r23) .ret) (.seq (.region f121.r24) (.cond (.t 71) (.seq (.region f121.r25) .ret) (.seq (.region f121.r26) (.cond (.t 77) (.seq (.region f121.r27) .ret) (.seq (.seq (.region f121.r28) (.cond (.t 83) .skip (.region f121.r29))) (.cond (.t 83) (.seq (.region f121.r30) .ret) (.seq (.region f121.r31) (.cond (.t 90) (.seq (.region f121.r32) .ret) .skip)))))))))))))))))))))))))))))) (.seq (.region f121.r33) .ret))) ⟨98, [(0, .d (.str [111, 114])), (1, .d (.int .i64 a)), (2, .d (.int .i64 b))], []⟩ _
  refine WC.seq ?_
  refine WC.reg (own := []) (by simp [f121.r0, runO]; rfl) ?_
  refine WC.seq ?_
  refine WC.seq ?_
  refine WC.reg (own := []) (by simp [f121.r1, runO]; rfl) ?_
  refine WC.block ?_
  refine WC.seq ?_
  refine WC.reg (own := []) (by simp [f121.r2, runO, (show Fw.bytesEq [111, 114] [97, 100, 100] = false from rfl)]; rfl) ?_
  refine WC.cond (t := false) (by simp [evo, get_cons]) ?_
  refine WC.seq ?_
  refine WC.reg (own := []) (by simp [f121.r4, runO, (show Fw.bytesEq [111, 114] [115, 117, 98] = false from rfl)]; rfl) ?_
  refine WC.cond (t := false) (by simp [evo, get_cons]) ?_
  refine WC.seq ?_
  refine WC.reg (own := []) (by simp [f121.r6, runO, (show Fw.bytesEq [111, 114] [109, 117, 108] = false from rfl)]; rfl) ?_
  refine WC.cond (t := false) (by simp [evo, get_cons]) ?_
  refine WC.seq ?_
  refine WC.reg (own := []) (by simp [f121.r8, runO, (show Fw.bytesEq [111, 114] [100, 105, 118] = false from rfl)]; rfl) ?_
  refine WC.cond (t := false) (by simp [evo, get_cons]) ?_
  refine WC.seq ?_
  refine WC.reg (own := []) (by simp [f121.r10, runO, (show Fw.bytesEq [111, 114] [109, 111, 100] = false from rfl)]; rfl) ?_
  refine WC.cond (t := false) (by simp [evo, get_cons]) ?_
  refine WC.seq ?_
  refine WC.reg (own := []) (by simp [f121.r14, runO, (show Fw.bytesEq [111, 114] [109, 105, 110] = false from rfl)]; rfl) ?_
  refine WC.cond (t := false) (by simp [evo, get_cons]) ?_
  refine WC.seq ?_
  refine WC.reg (own := []) (by simp [f121.r16, runO, (show Fw.bytesEq [111, 114] [109, 97, 120] = false from rfl)]; rfl) ?_
  refine WC.cond (t := false) (by simp [evo, get_cons]) ?_
  refine WC.seq ?_
  refine WC.reg (own := []) (by simp [f121.r18, runO, (show Fw.bytesEq [111, 114] [108, 116] = false from rfl)]; rfl) ?_
  refine WC.cond (t := false) (by simp [evo, get_cons]) ?_
  refine WC.seq ?_
  refine WC.reg (own := []) (by simp [f121.r20, runO, (show Fw.bytesEq [111, 114] [108, 101] = false from rfl)]; rfl) ?_
  refine WC.cond (t := false) (by simp [evo, get_cons]) ?_
  refine WC.seq ?_
  refine WC.reg (own := []) (by simp [f121.r22, runO, (show Fw.bytesEq [111, 114] [103, 116] = false from rfl)]; rfl) ?_
  refine WC.cond (t := false) (by simp [evo, get_cons]) ?_
  refine WC.seq ?_
  refine WC.reg (own := []) (by simp [f121.r24, runO, (show Fw.bytesEq [111, 114] [103, 101] = false from rfl)]; rfl) ?_
  refine WC.cond (t := false) (by simp [evo, get_cons]) ?_
  refine WC.seq ?_
  refine WC.reg (own := []) (by simp [f121.r26, runO, (show Fw.bytesEq [111, 114] [101, 113] = false from rfl)]; rfl) ?_
  refine WC.cond (t := false) (by simp [evo, get_cons]) ?_
  refine WC.seq ?_
  refine WC.seq ?_
  refine WC.reg (own := []) (by simp [f121.r28, runO, (show Fw.bytesEq [111, 114] [110, 101] = false from rfl)]; rfl) ?_
  refine WC.cond (t := false) (by simp [evo, get_cons]) ?_
  refine WC.reg (own := []) (by simp [f121.r29, runO, (show Fw.bytesEq [111, 114] [120, 111, 114] = false from rfl)]; rfl) ?_
  refine WC.cond (t := false) (by simp [evo, get_cons]) ?_
  refine WC.seq ?_
  refine WC.reg (own := []) (by simp [f121.r31, runO, (show Fw.bytesEq [111, 114] [97, 110, 100] = false from rfl)]; rfl) ?_
  refine WC.cond (t := false) (by simp [evo, get_cons]) ?_
  refine WC.skip ?_
  refine WC.seq ?_
  refine WC.reg (own := []) (by simp [f121.r33, runO]; rfl) ?_
  refine WC.ret ?_
  simp [resV, f121, mapO, resOne, get_cons, deepV, deepA, deepC, loadC, hget, mkV, nbeq, nble, deepFuel, w64]
end Fw.Tz
