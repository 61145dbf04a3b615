/-
  Scheme (both sides) at a number that is wrong for the primitive.
-/
import Derived.Test.YtlgnmcfckgokdaaGreatDoorSe

set_option linter.unusedSimpArgs false
set_option linter.unusedVariables false
set_option maxRecDepth 1000000
set_option maxHeartbeats 2000000
namespace Fw.Tz
open Go Go.Proofs Fw.X
variable {W : World}
def zErr1 : V := .tuple [.agg [.d (.list []), .d (.str []), .d (.str []), .d (.list []), .d (.list [])], .d (.int .i64 1)]
theorem bad18a (hW : W0 W) {s : List UInt8} {n : Int} {a0 a1 a3 a4 a5 a6 a7 a8 a9 : D} (h : PC P (gl W) 17 [.d (.str s)] (.tuple [.agg [.d a0, .d a1, .d (.bool true), .d a3, .d a4, .d a5, .d a6, .d a7, .d a8, .d a9], .d (.bool true)])) (hn : n < 1) : PC P (gl W) 18 [.d (.str s), .d (.int .i64 n)] zErr1 := by
  refine PC.body is18 ca18 (by simp [f18]) rfl ?_
  show WC P (gl W) (.seq (.region f18.r0) (.seq (.region f18.r1) (.seq (.block 0 (.seq (.region f18.r2) (.cond (.t 14) (.seq (.region f18.r3) .ret) (.seq (.region f18.r4) (.cond (.t 18) (.seq (.region f18.r5) .ret) (.seq (.region f18.r6) (.cond (.t 39) (.seq (.region f18.r7) (.seq (.region f18.r8) .ret)) .skip))))))) (.seq (.region f18.r9) .ret)))) ⟨59, [(0, .d (.str s)), (1, .d (.int .i64 n))], []⟩ _
  refine WC.seq ?_
  refine WC.reg (own := []) (by simp [f18.r0, runO, asData, guardB, eff, evo, get_cons, put_cons, put_nil, stput_some, stput_none, happ, binD, binS, binI, eqV, unV, fillC, putCells, cellsV, okC, storeC, hget, hput, nbeq, nble, loadC, mkV]; rfl) ?_
  refine WC.seq ?_
  refine WC.region ?_
  refine WO.preN 1 (own := []) noC_ok (by simp [f18.r1, runO, asData, guardB, eff, evo, get_cons, put_cons, put_nil, stput_some, stput_none, happ, binD, binS, binI, eqV, unV, fillC, putCells, cellsV, okC, storeC, hget, hput, nbeq, nble, loadC, mkV]; rfl) ?_
  refine WO.callPC rfl rfl (h) (by simp [f18.r1, get_cons, put_cons, put_nil, stput_some]; rfl) ?_
  refine runO_ok (own := []) noC_ok (by simp [runO, asData, guardB, eff, evo, get_cons, put_cons, put_nil, stput_some, stput_none, happ, binD, binS, binI, eqV, unV, fillC, putCells, cellsV, okC, storeC, hget, hput, nbeq, nble, loadC, mkV]; rfl) ?_
  refine WC.seq ?_
  refine WC.block ?_
  refine WC.seq ?_
  refine WC.reg (own := []) (by simp [f18.r2, runO, asData, guardB, eff, evo, get_cons, put_cons, put_nil, stput_some, stput_none, happ, binD, binS, binI, eqV, unV, fillC, putCells, cellsV, okC, storeC, hget, hput, nbeq, nble, loadC, mkV]; rfl) ?_
  refine WC.cond (t := false) (by simp [evo, get_cons]) ?_
  refine WC.seq ?_
  refine WC.reg (own := []) (by simp [f18.r4, hn, runO, asData, guardB, eff, evo, get_cons, put_cons, put_nil, stput_some, stput_none, happ, binD, binS, binI, eqV, unV, fillC, putCells, cellsV, okC, storeC, hget, hput, nbeq, nble, loadC, mkV]; rfl) ?_
  refine WC.cond (t := true) (by simp [evo, get_cons, hn]) ?_
  refine WC.seq ?_
  refine WC.reg (own := []) (by simp [f18.r5, runO, asData, guardB, eff, evo, get_cons, put_cons, put_nil, stput_some, stput_none, happ, binD, binS, binI, eqV, unV, fillC, putCells, cellsV, okC, storeC, hget, hput, nbeq, nble, loadC, mkV]; rfl) ?_
  refine WC.ret ?_
  simp [resV, f18, mapO, resOne, get_cons, deepV, deepA, deepC, loadC, hget, mkV, nbeq, nble, deepFuel]
  rfl
theorem bad18b (hW : W0 W) {s : List UInt8} {n : Int} {a0 a1 a3 a4 a5 a6 a7 a8 a9 : D} (h : PC P (gl W) 17 [.d (.str s)] (.tuple [.agg [.d a0, .d a1, .d (.bool true), .d a3, .d a4, .d a5, .d a6, .d a7, .d a8, .d a9], .d (.bool true)])) (hn : 64 < n) : PC P (gl W) 18 [.d (.str s), .d (.int .i64 n)] zErr1 := by
  have hn2 : ¬ n < 1 := by omega
  refine PC.body is18 ca18 (by simp [f18]) rfl ?_
  show WC P (gl W) (.seq (.region f18.r0) (.seq (.region f18.r1) (.seq (.block 0 (.seq (.region f18.r2) (.cond (.t 14) (.seq (.region f18.r3) .ret) (.seq (.region f18.r4) (.cond (.t 18) (.seq (.region f18.r5) .ret) (.seq (.region f18.r6) (.cond (.t 39) (.seq (.region f18.r7) (.seq (.region f18.r8) .ret)) .skip))))))) (.seq (.region f18.r9) .ret)))) ⟨59, [(0, .d (.str s)), (1, .d (.int .i64 n))], []⟩ _
  refine WC.seq ?_
  refine WC.reg (own := []) (by simp [f18.r0, runO, asData, guardB, eff, evo, get_cons, put_cons, put_nil, stput_some, stput_none, happ, binD, binS, binI, eqV, unV, fillC, putCells, cellsV, okC, storeC, hget, hput, nbeq, nble, loadC, mkV]; rfl) ?_
  refine WC.seq ?_
  refine WC.region ?_
  refine WO.preN 1 (own := []) noC_ok (by simp [f18.r1, runO, asData, guardB, eff, evo, get_cons, put_cons, put_nil, stput_some, stput_none, happ, binD, binS, binI, eqV, unV, fillC, putCells, cellsV, okC, storeC, hget, hput, nbeq, nble, loadC, mkV]; rfl) ?_
  refine WO.callPC rfl rfl (h) (by simp [f18.r1, get_cons, put_cons, put_nil, stput_some]; rfl) ?_
  refine runO_ok (own := []) noC_ok (by simp [runO, asData, guardB, eff, evo, get_cons, put_cons, put_nil, stput_some, stput_none, happ, binD, binS, binI, eqV, unV, fillC, putCells, cellsV, okC, storeC, hget, hput, nbeq, nble, loadC, mkV]; rfl) ?_
  refine WC.seq ?_
  refine WC.block ?_
  refine WC.seq ?_
  refine WC.reg (own := []) (by simp [f18.r2, runO, asData, guardB, eff, evo, get_cons, put_cons, put_nil, stput_some, stput_none, happ, binD, binS, binI, eqV, unV, fillC, putCells, cellsV, okC, storeC, hget, hput, nbeq, nble, loadC, mkV]; rfl) ?_
  refine WC.cond (t := false) (by simp [evo, get_cons]) ?_
  refine WC.seq ?_
  refine WC.reg (own := []) (by simp [f18.r4, hn, hn2, runO, asData, guardB, eff, evo, get_cons, put_cons, put_nil, stput_some, stput_none, happ, binD, binS, binI, eqV, unV, fillC, putCells, cellsV, okC, storeC, hget, hput, nbeq, nble, loadC, mkV]; rfl) ?_
  refine WC.cond (t := true) (by simp [evo, get_cons, hn, hn2]) ?_
  refine WC.seq ?_
  refine WC.reg (own := []) (by simp [f18.r5, runO, asData, guardB, eff, evo, get_cons, put_cons, put_nil, stput_some, stput_none, happ, binD, binS, binI, eqV, unV, fillC, putCells, cellsV, okC, storeC, hget, hput, nbeq, nble, loadC, mkV]; rfl) ?_
  refine WC.ret ?_
  simp [resV, f18, mapO, resOne, get_cons, deepV, deepA, deepC, loadC, hget, mkV, nbeq, nble, deepFuel]
  rfl
theorem bad18c (hW : W0 W) {s : List UInt8} {n : Int} {a0 a1 a3 a4 a5 a6 a7 a8 a9 : D} (h : PC P (gl W) 17 [.d (.str s)] (.tuple [.agg [.d a0, .d a1, .d (.bool false), .d a3, .d a4, .d a5, .d a6, .d a7, .d a8, .d a9], .d (.bool true)])) (hn : n ≠ 0) : PC P (gl W) 18 [.d (.str s), .d (.int .i64 n)] zErr1 := by
  refine PC.body is18 ca18 (by simp [f18]) rfl ?_
  show WC P (gl W) (.seq (.region f18.r0) (.seq (.region f18.r1) (.seq (.block 0 (.seq (.region f18.r2) (.cond (.t 14) (.seq (.region f18.r3) .ret) (.seq (.region f18.r4) (.cond (.t 18) (.seq (.region f18.r5) .ret) (.seq (.region f18.r6) (.cond (.t 39) (.seq (.region f18.r7) (.seq (.region f18.r8) .ret)) .skip))))))) (.seq (.region f18.r9) .ret)))) ⟨59, [(0, .d (.str s)), (1, .d (.int .i64 n))], []⟩ _
  refine WC.seq ?_
  refine WC.reg (own := []) (by simp [f18.r0, runO, asData, guardB, eff, evo, get_cons, put_cons, put_nil, stput_some, stput_none, happ, binD, binS, binI, eqV, unV, fillC, putCells, cellsV, okC, storeC, hget, hput, nbeq, nble, loadC, mkV]; rfl) ?_
  refine WC.seq ?_
  refine WC.region ?_
  refine WO.preN 1 (own := []) noC_ok (by simp [f18.r1, runO, asData, guardB, eff, evo, get_cons, put_cons, put_nil, stput_some, stput_none, happ, binD, binS, binI, eqV, unV, fillC, putCells, cellsV, okC, storeC, hget, hput, nbeq, nble, loadC, mkV]; rfl) ?_
  refine WO.callPC rfl rfl (h) (by simp [f18.r1, get_cons, put_cons, put_nil, stput_some]; rfl) ?_
  refine runO_ok (own := []) noC_ok (by simp [runO, asData, guardB, eff, evo, get_cons, put_cons, put_nil, stput_some, stput_none, happ, binD, binS, binI, eqV, unV, fillC, putCells, cellsV, okC, storeC, hget, hput, nbeq, nble, loadC, mkV]; rfl) ?_
  refine WC.seq ?_
  refine WC.block ?_
  refine WC.seq ?_
  refine WC.reg (own := []) (by simp [f18.r2, runO, asData, guardB, eff, evo, get_cons, put_cons, put_nil, stput_some, stput_none, happ, binD, binS, binI, eqV, unV, fillC, putCells, cellsV, okC, storeC, hget, hput, nbeq, nble, loadC, mkV]; rfl) ?_
  refine WC.cond (t := false) (by simp [evo, get_cons]) ?_
  refine WC.seq ?_
  refine WC.reg (own := []) (by simp [f18.r4, hn, runO, asData, guardB, eff, evo, get_cons, put_cons, put_nil, stput_some, stput_none, happ, binD, binS, binI, eqV, unV, fillC, putCells, cellsV, okC, storeC, hget, hput, nbeq, nble, loadC, mkV]; rfl) ?_
  refine WC.cond (t := true) (by simp [evo, get_cons, hn]) ?_
  refine WC.seq ?_
  refine WC.reg (own := []) (by simp [f18.r5, runO, asData, guardB, eff, evo, get_cons, put_cons, put_nil, stput_some, stput_none, happ, binD, binS, binI, eqV, unV, fillC, putCells, cellsV, okC, storeC, hget, hput, nbeq, nble, loadC, mkV]; rfl) ?_
  refine WC.ret ?_
  simp [resV, f18, mapO, resOne, get_cons, deepV, deepA, deepC, loadC, hget, mkV, nbeq, nble, deepFuel]
  rfl
theorem bad26a (hW : W0 W) {s : List UInt8} {n : Int} {a0 a1 a3 a4 a5 a6 a7 a8 a9 : D} (h : PC P (gl W) 25 [.d (.str s)] (.tuple [.agg [.d a0, .d a1, .d (.bool true), .d a3, .d a4, .d a5, .d a6, .d a7, .d a8, .d a9], .d (.bool true)])) (hn : n < 1) : PC P (gl W) 26 [.d (.str s), .d (.int .i64 n)] zErr1 := by
  refine PC.body is26 ca26 (by simp [f26]) rfl ?_
  show WC P (gl W) (.seq (.region f26.r0) (.seq (.region f26.r1) (.seq (.seq (.region f26.r2) (.cond (.t 14) (.seq (.region f26.r3) .ret) .skip)) (.seq (.seq (.region f26.r4) (.cond (.t 34) (.seq (.region f26.r5) .ret) .skip)) (.seq (.seq (.region f26.r6) (.cond (.t 37) (.region f26.r7) .skip)) (.seq (.region f26.r8) .ret)))))) ⟨47, [(0, .d (.str s)), (1, .d (.int .i64 n))], []⟩ _
  refine WC.seq ?_
  refine WC.reg (own := []) (by simp [f26.r0, runO, asData, guardB, eff, evo, get_cons, put_cons, put_nil, stput_some, stput_none, happ, binD, binS, binI, eqV, unV, fillC, putCells, cellsV, okC, storeC, hget, hput, nbeq, nble, loadC, mkV]; rfl) ?_
  refine WC.seq ?_
  refine WC.region ?_
  refine WO.preN 1 (own := []) noC_ok (by simp [f26.r1, runO, asData, guardB, eff, evo, get_cons, put_cons, put_nil, stput_some, stput_none, happ, binD, binS, binI, eqV, unV, fillC, putCells, cellsV, okC, storeC, hget, hput, nbeq, nble, loadC, mkV]; rfl) ?_
  refine WO.callPC rfl rfl (h) (by simp [f26.r1, get_cons, put_cons, put_nil, stput_some]; rfl) ?_
  refine runO_ok (own := []) noC_ok (by simp [runO, asData, guardB, eff, evo, get_cons, put_cons, put_nil, stput_some, stput_none, happ, binD, binS, binI, eqV, unV, fillC, putCells, cellsV, okC, storeC, hget, hput, nbeq, nble, loadC, mkV]; rfl) ?_
  refine WC.seq ?_
  refine WC.seq ?_
  refine WC.reg (own := []) (by simp [f26.r2, runO, asData, guardB, eff, evo, get_cons, put_cons, put_nil, stput_some, stput_none, happ, binD, binS, binI, eqV, unV, fillC, putCells, cellsV, okC, storeC, hget, hput, nbeq, nble, loadC, mkV]; rfl) ?_
  refine WC.cond (t := false) (by simp [evo, get_cons]) ?_
  refine WC.skip ?_
  refine WC.seq ?_
  refine WC.seq ?_
  refine WC.reg (own := []) (by simp [f26.r4, hn, runO, asData, guardB, eff, evo, get_cons, put_cons, put_nil, stput_some, stput_none, happ, binD, binS, binI, eqV, unV, fillC, putCells, cellsV, okC, storeC, hget, hput, nbeq, nble, loadC, mkV]; rfl) ?_
  refine WC.cond (t := true) (by simp [evo, get_cons, hn]) ?_
  refine WC.seq ?_
  refine WC.reg (own := []) (by simp [f26.r5, runO, asData, guardB, eff, evo, get_cons, put_cons, put_nil, stput_some, stput_none, happ, binD, binS, binI, eqV, unV, fillC, putCells, cellsV, okC, storeC, hget, hput, nbeq, nble, loadC, mkV]; rfl) ?_
  refine WC.ret ?_
  simp [resV, f26, mapO, resOne, get_cons, deepV, deepA, deepC, loadC, hget, mkV, nbeq, nble, deepFuel]
  rfl
theorem bad26b (hW : W0 W) {s : List UInt8} {n : Int} {a0 a1 a3 a4 a5 a6 a7 a8 a9 : D} (h : PC P (gl W) 25 [.d (.str s)] (.tuple [.agg [.d a0, .d a1, .d (.bool true), .d a3, .d a4, .d a5, .d a6, .d a7, .d a8, .d a9], .d (.bool true)])) (hn : 64 < n) : PC P (gl W) 26 [.d (.str s), .d (.int .i64 n)] zErr1 := by
  have hn2 : ¬ n < 1 := by omega
  refine PC.body is26 ca26 (by simp [f26]) rfl ?_
  show WC P (gl W) (.seq (.region f26.r0) (.seq (.region f26.r1) (.seq (.seq (.region f26.r2) (.cond (.t 14) (.seq (.region f26.r3) .ret) .skip)) (.seq (.seq (.region f26.r4) (.cond (.t 34) (.seq (.region f26.r5) .ret) .skip)) (.seq (.seq (.region f26.r6) (.cond (.t 37) (.region f26.r7) .skip)) (.seq (.region f26.r8) .ret)))))) ⟨47, [(0, .d (.str s)), (1, .d (.int .i64 n))], []⟩ _
  refine WC.seq ?_
  refine WC.reg (own := []) (by simp [f26.r0, runO, asData, guardB, eff, evo, get_cons, put_cons, put_nil, stput_some, stput_none, happ, binD, binS, binI, eqV, unV, fillC, putCells, cellsV, okC, storeC, hget, hput, nbeq, nble, loadC, mkV]; rfl) ?_
  refine WC.seq ?_
  refine WC.region ?_
  refine WO.preN 1 (own := []) noC_ok (by simp [f26.r1, runO, asData, guardB, eff, evo, get_cons, put_cons, put_nil, stput_some, stput_none, happ, binD, binS, binI, eqV, unV, fillC, putCells, cellsV, okC, storeC, hget, hput, nbeq, nble, loadC, mkV]; rfl) ?_
  refine WO.callPC rfl rfl (h) (by simp [f26.r1, get_cons, put_cons, put_nil, stput_some]; rfl) ?_
  refine runO_ok (own := []) noC_ok (by simp [runO, asData, guardB, eff, evo, get_cons, put_cons, put_nil, stput_some, stput_none, happ, binD, binS, binI, eqV, unV, fillC, putCells, cellsV, okC, storeC, hget, hput, nbeq, nble, loadC, mkV]; rfl) ?_
  refine WC.seq ?_
  refine WC.seq ?_
  refine WC.reg (own := []) (by simp [f26.r2, runO, asData, guardB, eff, evo, get_cons, put_cons, put_nil, stput_some, stput_none, happ, binD, binS, binI, eqV, unV, fillC, putCells, cellsV, okC, storeC, hget, hput, nbeq, nble, loadC, mkV]; rfl) ?_
  refine WC.cond (t := false) (by simp [evo, get_cons]) ?_
  refine WC.skip ?_
  refine WC.seq ?_
  refine WC.seq ?_
  refine WC.reg (own := []) (by simp [f26.r4, hn, hn2, runO, asData, guardB, eff, evo, get_cons, put_cons, put_nil, stput_some, stput_none, happ, binD, binS, binI, eqV, unV, fillC, putCells, cellsV, okC, storeC, hget, hput, nbeq, nble, loadC, mkV]; rfl) ?_
  refine WC.cond (t := true) (by simp [evo, get_cons, hn, hn2]) ?_
  refine WC.seq ?_
  refine WC.reg (own := []) (by simp [f26.r5, runO, asData, guardB, eff, evo, get_cons, put_cons, put_nil, stput_some, stput_none, happ, binD, binS, binI, eqV, unV, fillC, putCells, cellsV, okC, storeC, hget, hput, nbeq, nble, loadC, mkV]; rfl) ?_
  refine WC.ret ?_
  simp [resV, f26, mapO, resOne, get_cons, deepV, deepA, deepC, loadC, hget, mkV, nbeq, nble, deepFuel]
  rfl
theorem bad26c (hW : W0 W) {s : List UInt8} {n : Int} {a0 a1 a3 a4 a5 a6 a7 a8 a9 : D} (h : PC P (gl W) 25 [.d (.str s)] (.tuple [.agg [.d a0, .d a1, .d (.bool false), .d a3, .d a4, .d a5, .d a6, .d a7, .d a8, .d a9], .d (.bool true)])) (hn : n ≠ 0) : PC P (gl W) 26 [.d (.str s), .d (.int .i64 n)] zErr1 := by
  refine PC.body is26 ca26 (by simp [f26]) rfl ?_
  show WC P (gl W) (.seq (.region f26.r0) (.seq (.region f26.r1) (.seq (.seq (.region f26.r2) (.cond (.t 14) (.seq (.region f26.r3) .ret) .skip)) (.seq (.seq (.region f26.r4) (.cond (.t 34) (.seq (.region f26.r5) .ret) .skip)) (.seq (.seq (.region f26.r6) (.cond (.t 37) (.region f26.r7) .skip)) (.seq (.region f26.r8) .ret)))))) ⟨47, [(0, .d (.str s)), (1, .d (.int .i64 n))], []⟩ _
  refine WC.seq ?_
  refine WC.reg (own := []) (by simp [f26.r0, runO, asData, guardB, eff, evo, get_cons, put_cons, put_nil, stput_some, stput_none, happ, binD, binS, binI, eqV, unV, fillC, putCells, cellsV, okC, storeC, hget, hput, nbeq, nble, loadC, mkV]; rfl) ?_
  refine WC.seq ?_
  refine WC.region ?_
  refine WO.preN 1 (own := []) noC_ok (by simp [f26.r1, runO, asData, guardB, eff, evo, get_cons, put_cons, put_nil, stput_some, stput_none, happ, binD, binS, binI, eqV, unV, fillC, putCells, cellsV, okC, storeC, hget, hput, nbeq, nble, loadC, mkV]; rfl) ?_
  refine WO.callPC rfl rfl (h) (by simp [f26.r1, get_cons, put_cons, put_nil, stput_some]; rfl) ?_
  refine runO_ok (own := []) noC_ok (by simp [runO, asData, guardB, eff, evo, get_cons, put_cons, put_nil, stput_some, stput_none, happ, binD, binS, binI, eqV, unV, fillC, putCells, cellsV, okC, storeC, hget, hput, nbeq, nble, loadC, mkV]; rfl) ?_
  refine WC.seq ?_
  refine WC.seq ?_
  refine WC.reg (own := []) (by simp [f26.r2, runO, asData, guardB, eff, evo, get_cons, put_cons, put_nil, stput_some, stput_none, happ, binD, binS, binI, eqV, unV, fillC, putCells, cellsV, okC, storeC, hget, hput, nbeq, nble, loadC, mkV]; rfl) ?_
  refine WC.cond (t := false) (by simp [evo, get_cons]) ?_
  refine WC.skip ?_
  refine WC.seq ?_
  refine WC.seq ?_
  refine WC.reg (own := []) (by simp [f26.r4, hn, runO, asData, guardB, eff, evo, get_cons, put_cons, put_nil, stput_some, stput_none, happ, binD, binS, binI, eqV, unV, fillC, putCells, cellsV, okC, storeC, hget, hput, nbeq, nble, loadC, mkV]; rfl) ?_
  refine WC.cond (t := true) (by simp [evo, get_cons, hn]) ?_
  refine WC.seq ?_
  refine WC.reg (own := []) (by simp [f26.r5, runO, asData, guardB, eff, evo, get_cons, put_cons, put_nil, stput_some, stput_none, happ, binD, binS, binI, eqV, unV, fillC, putCells, cellsV, okC, storeC, hget, hput, nbeq, nble, loadC, mkV]; rfl) ?_
  refine WC.ret ?_
  simp [resV, f26, mapO, resOne, get_cons, deepV, deepA, deepC, loadC, hget, mkV, nbeq, nble, deepFuel]
  rfl
end Fw.Tz
