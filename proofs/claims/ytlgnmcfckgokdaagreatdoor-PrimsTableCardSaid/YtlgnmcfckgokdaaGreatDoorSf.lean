/-
  PrimsTable: the call, over what its callees answer.
-/
import Derived.Test.YtlgnmcfckgokdaaGreatDoorSe

set_option linter.unusedSimpArgs false
set_option linter.unusedVariables false
set_option maxRecDepth 1000000
set_option maxHeartbeats 2000000
namespace Fw.Tz
open Go Go.Proofs Fw.X
variable {W : World}
def primC (v : V) : List V := match v with
  | .tuple [.agg cs, _] => cs
  | _ => []
def scC (J : Int) : List V := [.d (.list [[.str [65], .str [], .list [[.int .i64 0, .list [[.str [110], .int .i64 J]]]]]]), .d (.str [65]), .d (.str []), .d (.list [[.int .i64 0, .list [[.str [110], .int .i64 1]]], [.int .i64 J, .list []]]), .d (.list [])]
def zS5 : List V := [.d (.list []), .d (.str []), .d (.str []), .d (.list []), .d (.list [])]
def rest7 : IR := (.seq (.region f7.r11) (.seq (.seq (.draw f7.r12) (.cond (.t 105) (.seq (.region f7.r13) .ret) .skip)) (.seq (.seq (.region f7.r14) (.block 0 (.loop f7.l19))) (.seq (.region f7.r20) .ret))))
def tm7 (ok is : Bool) (e f : Int) (x0 y0 : List UInt8) (x1 x2 y1 y2 : Bool) : List (Nat × V) := [(5, .ptr 0 10 0), (6, .d (.bool ok)), (7, .ptr 1 10 0), (8, .d (.bool is)), (9, .ptr 2 5 0), (10, .d (.int .i64 e)), (11, .ptr 3 5 0), (12, .d (.int .i64 f)), (13, .d (.str x0)), (14, .d (.bool x1)), (15, .d (.bool x2)), (16, .d (.str y0)), (17, .d (.bool y1)), (18, .d (.bool y2))]
def H7 (a b s t : List V) : Heap := [some (.cells a), some (.cells b), some (.cells s), some (.cells t)]
def chk7 (W : World) (a b s t : List V) (ok is : Bool) (e f : Int) (x0 y0 : List UInt8) (x1 x2 y1 y2 : Bool) : Prop := isT (runRX W ktS exS [] 121 rest7 f7.res (tm7 ok is e f x0 y0 x1 x2 y1 y2) (H7 a b s t)) = true
theorem gen7 (hW : W0 W) {s : List UInt8} {n : Int} {a0 a1 a2 a3 a4 a5 a6 a7 a8 a9 b0 b1 b2 b3 b4 b5 b6 b7 b8 b9 s0 s1 s2 s3 s4 t0 t1 t2 t3 t4 : D} {ok is : Bool} {e f : Int} {x0 y0 : List UInt8} {x1 x2 y1 y2 : Bool}
    (hA : PC P (gl W) 17 [.d (.str s)] (.tuple [.agg [.d a0, .d a1, .d a2, .d a3, .d a4, .d a5, .d a6, .d a7, .d a8, .d a9], .d (.bool ok)])) (hB : PC P (gl W) 25 [.d (.str s)] (.tuple [.agg [.d b0, .d b1, .d b2, .d b3, .d b4, .d b5, .d b6, .d b7, .d b8, .d b9], .d (.bool is)]))
    (hS : PC P (gl W) 18 [.d (.str s), .d (.int .i64 n)] (.tuple [.agg [.d s0, .d s1, .d s2, .d s3, .d s4], .d (.int .i64 e)])) (hT : PC P (gl W) 26 [.d (.str s), .d (.int .i64 n)] (.tuple [.agg [.d t0, .d t1, .d t2, .d t3, .d t4], .d (.int .i64 f)]))
    (hX : PC P (gl W) 27 [.d (.str s)] (.tuple [.d (.str x0), .d (.bool x1), .d (.bool x2)])) (hY : PC P (gl W) 28 [.d (.str s)] (.tuple [.d (.str y0), .d (.bool y1), .d (.bool y2)]))
    (hr : chk7 W [.d a0, .d a1, .d a2, .d a3, .d a4, .d a5, .d a6, .d a7, .d a8, .d a9] [.d b0, .d b1, .d b2, .d b3, .d b4, .d b5, .d b6, .d b7, .d b8, .d b9] [.d s0, .d s1, .d s2, .d s3, .d s4] [.d t0, .d t1, .d t2, .d t3, .d t4] ok is e f x0 y0 x1 x2 y1 y2) : PC P (gl W) 7 [.d (.str s), .d (.int .i64 n)] (.d (.bool true)) := by
  refine PC.body is7 ca7 (by simp [f7]) rfl ?_
  show WC P (gl W) (.seq (.region f7.r0) (.seq (.seq (.region f7.r1) (.cond (.t 23) (.seq (.region f7.r2) .ret) .skip)) (.seq (.seq (.region f7.r3) (.cond (.t 26) (.seq (.region f7.r4) .ret) .skip)) (.seq (.region f7.r5) (.seq (.region f7.r6) (.seq (.region f7.r7) (.seq (.region f7.r8) (.seq (.region f7.r9) (.seq (.region f7.r10) (.seq (.region f7.r11) (.seq (.seq (.draw f7.r12) (.cond (.t 105) (.seq (.region f7.r13) .ret) .skip)) (.seq (.seq (.region f7.r14) (.block 0 (.loop f7.l19))) (.seq (.region f7.r20) .ret))))))))))))) ⟨121, [(0, .d (.str s)), (1, .d (.int .i64 n))], []⟩ _
  refine WC.seq (WC.runKX hW (exS_ok hW) (kt := ktS) (own := []) [0, 1] (vals := [.d (.str s), .d (.int .i64 n)]) (H' := []) (by decide) (by kernel_rfl) (by kernel_rfl) ?_)
  refine WC.seq (WC.runKX hW (exS_ok hW) (kt := ktS) (own := []) [0, 1] (vals := [.d (.str s), .d (.int .i64 n)]) (H' := []) (by decide) (by kernel_rfl) (by kernel_rfl) ?_)
  change WC P (gl W) _ ⟨121, [(0, .d (.str s)), (1, .d (.int .i64 n))], []⟩ _
  refine WC.seq (WC.seq (WC.reg (own := []) (by simp [f7.r3, runO, asData, guardB, eff, evo, get_cons, put_cons, put_nil, stput_some, stput_none, happ, binD, binS, binI, eqV, unV, fillC, putCells, cellsV, okC, storeC, hget, hput, nbeq, nble, loadC, mkV, lenV]; rfl) ?_))
  by_cases h40 : 40 < s.length
  · refine WC.cond (t := true) (by simp [evo, get_cons]; omega) ?_
    refine WC.seq (WC.reg (own := []) (by simp [f7.r4, runO, asData, guardB, eff, evo, get_cons, put_cons, put_nil, stput_some, stput_none, happ, binD, binS, binI, eqV, unV, fillC, putCells, cellsV, okC, storeC, hget, hput, nbeq, nble, loadC, mkV]; rfl) (WC.ret ?_))
    simp [resV, f7, mapO, resOne, get_cons, deepV, deepA]
    rfl
  refine WC.cond (t := false) (by simp [evo, get_cons]; omega) (WC.skip ?_)
  refine WC.keep [0, 1] ?_
  change WC P (gl W) _ ⟨121, [(0, .d (.str s)), (1, .d (.int .i64 n))], []⟩ _
  refine WC.seq (WC.region (WO.preN 1 (own := []) noC_ok (by simp [f7.r5, runO, asData, guardB, eff, evo, get_cons, put_cons, put_nil, stput_some, stput_none, happ, binD, binS, binI, eqV, unV, fillC, putCells, cellsV, okC, storeC, hget, hput, nbeq, nble, loadC, mkV]; rfl) ?_))
  refine WO.callPC rfl rfl hA (by simp [f7.r5, get_cons, put_cons, put_nil, stput_some]; rfl) ?_
  refine WO.runWX hW (exS_ok hW) (kt := ktS) (own := []) [0, 1, 5, 6] (vals := [.d (.str s), .d (.int .i64 n), .ptr 0 10 0, .d (.bool ok)]) (H' := [some (.cells [.d a0, .d a1, .d a2, .d a3, .d a4, .d a5, .d a6, .d a7, .d a8, .d a9])]) (by decide) (by kernel_rfl) (by kernel_rfl) (fun tm' hw => WC.weak hw ?_)
  change WC P (gl W) _ ⟨121, [(0, .d (.str s)), (1, .d (.int .i64 n)), (5, .ptr 0 10 0), (6, .d (.bool ok))], [some (.cells [.d a0, .d a1, .d a2, .d a3, .d a4, .d a5, .d a6, .d a7, .d a8, .d a9])]⟩ _
  refine WC.seq (WC.region (WO.preN 1 (own := []) noC_ok (by simp [f7.r6, runO, asData, guardB, eff, evo, get_cons, put_cons, put_nil, stput_some, stput_none, happ, binD, binS, binI, eqV, unV, fillC, putCells, cellsV, okC, storeC, hget, hput, nbeq, nble, loadC, mkV]; rfl) ?_))
  refine WO.callPC rfl rfl hB (by simp [f7.r6, get_cons, put_cons, put_nil, stput_some]; rfl) ?_
  refine WO.runWX hW (exS_ok hW) (kt := ktS) (own := []) [0, 1, 5, 6, 7, 8] (vals := [.d (.str s), .d (.int .i64 n), .ptr 0 10 0, .d (.bool ok), .ptr 1 10 0, .d (.bool is)]) (H' := [some (.cells [.d a0, .d a1, .d a2, .d a3, .d a4, .d a5, .d a6, .d a7, .d a8, .d a9]), some (.cells [.d b0, .d b1, .d b2, .d b3, .d b4, .d b5, .d b6, .d b7, .d b8, .d b9])]) (by decide) (by kernel_rfl) (by kernel_rfl) (fun tm' hw => WC.weak hw ?_)
  change WC P (gl W) _ ⟨121, [(0, .d (.str s)), (1, .d (.int .i64 n)), (5, .ptr 0 10 0), (6, .d (.bool ok)), (7, .ptr 1 10 0), (8, .d (.bool is))], [some (.cells [.d a0, .d a1, .d a2, .d a3, .d a4, .d a5, .d a6, .d a7, .d a8, .d a9]), some (.cells [.d b0, .d b1, .d b2, .d b3, .d b4, .d b5, .d b6, .d b7, .d b8, .d b9])]⟩ _
  refine WC.seq (WC.region (WO.preN 2 (own := []) noC_ok (by simp [f7.r7, runO, asData, guardB, eff, evo, get_cons, put_cons, put_nil, stput_some, stput_none, happ, binD, binS, binI, eqV, unV, fillC, putCells, cellsV, okC, storeC, hget, hput, nbeq, nble, loadC, mkV]; rfl) ?_))
  refine WO.callPC rfl rfl hS (by simp [f7.r7, get_cons, put_cons, put_nil, stput_some]; rfl) ?_
  refine WO.runWX hW (exS_ok hW) (kt := ktS) (own := []) [0, 1, 5, 6, 7, 8, 9, 10] (vals := [.d (.str s), .d (.int .i64 n), .ptr 0 10 0, .d (.bool ok), .ptr 1 10 0, .d (.bool is), .ptr 2 5 0, .d (.int .i64 e)]) (H' := [some (.cells [.d a0, .d a1, .d a2, .d a3, .d a4, .d a5, .d a6, .d a7, .d a8, .d a9]), some (.cells [.d b0, .d b1, .d b2, .d b3, .d b4, .d b5, .d b6, .d b7, .d b8, .d b9]), some (.cells [.d s0, .d s1, .d s2, .d s3, .d s4])]) (by decide) (by kernel_rfl) (by kernel_rfl) (fun tm' hw => WC.weak hw ?_)
  change WC P (gl W) _ ⟨121, [(0, .d (.str s)), (1, .d (.int .i64 n)), (5, .ptr 0 10 0), (6, .d (.bool ok)), (7, .ptr 1 10 0), (8, .d (.bool is)), (9, .ptr 2 5 0), (10, .d (.int .i64 e))], [some (.cells [.d a0, .d a1, .d a2, .d a3, .d a4, .d a5, .d a6, .d a7, .d a8, .d a9]), some (.cells [.d b0, .d b1, .d b2, .d b3, .d b4, .d b5, .d b6, .d b7, .d b8, .d b9]), some (.cells [.d s0, .d s1, .d s2, .d s3, .d s4])]⟩ _
  refine WC.seq (WC.region (WO.preN 2 (own := []) noC_ok (by simp [f7.r8, runO, asData, guardB, eff, evo, get_cons, put_cons, put_nil, stput_some, stput_none, happ, binD, binS, binI, eqV, unV, fillC, putCells, cellsV, okC, storeC, hget, hput, nbeq, nble, loadC, mkV]; rfl) ?_))
  refine WO.callPC rfl rfl hT (by simp [f7.r8, get_cons, put_cons, put_nil, stput_some]; rfl) ?_
  refine WO.runWX hW (exS_ok hW) (kt := ktS) (own := []) [0, 1, 5, 6, 7, 8, 9, 10, 11, 12] (vals := [.d (.str s), .d (.int .i64 n), .ptr 0 10 0, .d (.bool ok), .ptr 1 10 0, .d (.bool is), .ptr 2 5 0, .d (.int .i64 e), .ptr 3 5 0, .d (.int .i64 f)]) (H' := [some (.cells [.d a0, .d a1, .d a2, .d a3, .d a4, .d a5, .d a6, .d a7, .d a8, .d a9]), some (.cells [.d b0, .d b1, .d b2, .d b3, .d b4, .d b5, .d b6, .d b7, .d b8, .d b9]), some (.cells [.d s0, .d s1, .d s2, .d s3, .d s4]), some (.cells [.d t0, .d t1, .d t2, .d t3, .d t4])]) (by decide) (by kernel_rfl) (by kernel_rfl) (fun tm' hw => WC.weak hw ?_)
  change WC P (gl W) _ ⟨121, [(0, .d (.str s)), (1, .d (.int .i64 n)), (5, .ptr 0 10 0), (6, .d (.bool ok)), (7, .ptr 1 10 0), (8, .d (.bool is)), (9, .ptr 2 5 0), (10, .d (.int .i64 e)), (11, .ptr 3 5 0), (12, .d (.int .i64 f))], [some (.cells [.d a0, .d a1, .d a2, .d a3, .d a4, .d a5, .d a6, .d a7, .d a8, .d a9]), some (.cells [.d b0, .d b1, .d b2, .d b3, .d b4, .d b5, .d b6, .d b7, .d b8, .d b9]), some (.cells [.d s0, .d s1, .d s2, .d s3, .d s4]), some (.cells [.d t0, .d t1, .d t2, .d t3, .d t4])]⟩ _
  refine WC.seq (WC.region (WO.preN 1 (own := []) noC_ok (by simp [f7.r9, runO, asData, guardB, eff, evo, get_cons, put_cons, put_nil, stput_some, stput_none, happ, binD, binS, binI, eqV, unV, fillC, putCells, cellsV, okC, storeC, hget, hput, nbeq, nble, loadC, mkV]; rfl) ?_))
  refine WO.callPC rfl rfl hX (by simp [f7.r9, get_cons, put_cons, put_nil, stput_some]; rfl) ?_
  refine WO.runWX hW (exS_ok hW) (kt := ktS) (own := []) [0, 1, 5, 6, 7, 8, 9, 10, 11, 12, 13, 14, 15] (vals := [.d (.str s), .d (.int .i64 n), .ptr 0 10 0, .d (.bool ok), .ptr 1 10 0, .d (.bool is), .ptr 2 5 0, .d (.int .i64 e), .ptr 3 5 0, .d (.int .i64 f), .d (.str x0), .d (.bool x1), .d (.bool x2)]) (H' := [some (.cells [.d a0, .d a1, .d a2, .d a3, .d a4, .d a5, .d a6, .d a7, .d a8, .d a9]), some (.cells [.d b0, .d b1, .d b2, .d b3, .d b4, .d b5, .d b6, .d b7, .d b8, .d b9]), some (.cells [.d s0, .d s1, .d s2, .d s3, .d s4]), some (.cells [.d t0, .d t1, .d t2, .d t3, .d t4])]) (by decide) (by kernel_rfl) (by kernel_rfl) (fun tm' hw => WC.weak hw ?_)
  change WC P (gl W) _ ⟨121, [(0, .d (.str s)), (1, .d (.int .i64 n)), (5, .ptr 0 10 0), (6, .d (.bool ok)), (7, .ptr 1 10 0), (8, .d (.bool is)), (9, .ptr 2 5 0), (10, .d (.int .i64 e)), (11, .ptr 3 5 0), (12, .d (.int .i64 f)), (13, .d (.str x0)), (14, .d (.bool x1)), (15, .d (.bool x2))], [some (.cells [.d a0, .d a1, .d a2, .d a3, .d a4, .d a5, .d a6, .d a7, .d a8, .d a9]), some (.cells [.d b0, .d b1, .d b2, .d b3, .d b4, .d b5, .d b6, .d b7, .d b8, .d b9]), some (.cells [.d s0, .d s1, .d s2, .d s3, .d s4]), some (.cells [.d t0, .d t1, .d t2, .d t3, .d t4])]⟩ _
  refine WC.seq (WC.region (WO.preN 1 (own := []) noC_ok (by simp [f7.r10, runO, asData, guardB, eff, evo, get_cons, put_cons, put_nil, stput_some, stput_none, happ, binD, binS, binI, eqV, unV, fillC, putCells, cellsV, okC, storeC, hget, hput, nbeq, nble, loadC, mkV]; rfl) ?_))
  refine WO.callPC rfl rfl hY (by simp [f7.r10, get_cons, put_cons, put_nil, stput_some]; rfl) ?_
  refine WO.runWX hW (exS_ok hW) (kt := ktS) (own := []) [0, 1, 5, 6, 7, 8, 9, 10, 11, 12, 13, 14, 15, 16, 17, 18] (vals := [.d (.str s), .d (.int .i64 n), .ptr 0 10 0, .d (.bool ok), .ptr 1 10 0, .d (.bool is), .ptr 2 5 0, .d (.int .i64 e), .ptr 3 5 0, .d (.int .i64 f), .d (.str x0), .d (.bool x1), .d (.bool x2), .d (.str y0), .d (.bool y1), .d (.bool y2)]) (H' := [some (.cells [.d a0, .d a1, .d a2, .d a3, .d a4, .d a5, .d a6, .d a7, .d a8, .d a9]), some (.cells [.d b0, .d b1, .d b2, .d b3, .d b4, .d b5, .d b6, .d b7, .d b8, .d b9]), some (.cells [.d s0, .d s1, .d s2, .d s3, .d s4]), some (.cells [.d t0, .d t1, .d t2, .d t3, .d t4])]) (by decide) (by kernel_rfl) (by kernel_rfl) (fun tm' hw => WC.weak hw ?_)
  change WC P (gl W) _ ⟨121, [(0, .d (.str s)), (1, .d (.int .i64 n)), (5, .ptr 0 10 0), (6, .d (.bool ok)), (7, .ptr 1 10 0), (8, .d (.bool is)), (9, .ptr 2 5 0), (10, .d (.int .i64 e)), (11, .ptr 3 5 0), (12, .d (.int .i64 f)), (13, .d (.str x0)), (14, .d (.bool x1)), (15, .d (.bool x2)), (16, .d (.str y0)), (17, .d (.bool y1)), (18, .d (.bool y2))], [some (.cells [.d a0, .d a1, .d a2, .d a3, .d a4, .d a5, .d a6, .d a7, .d a8, .d a9]), some (.cells [.d b0, .d b1, .d b2, .d b3, .d b4, .d b5, .d b6, .d b7, .d b8, .d b9]), some (.cells [.d s0, .d s1, .d s2, .d s3, .d s4]), some (.cells [.d t0, .d t1, .d t2, .d t3, .d t4])]⟩ _
  refine WC.keep [5, 6, 7, 8, 9, 10, 11, 12, 13, 14, 15, 16, 17, 18] ?_
  change WC P (gl W) rest7 ⟨121, tm7 ok is e f x0 y0 x1 x2 y1 y2, H7 [.d a0, .d a1, .d a2, .d a3, .d a4, .d a5, .d a6, .d a7, .d a8, .d a9] [.d b0, .d b1, .d b2, .d b3, .d b4, .d b5, .d b6, .d b7, .d b8, .d b9] [.d s0, .d s1, .d s2, .d s3, .d s4] [.d t0, .d t1, .d t2, .d t3, .d t4]⟩ _
  exact WC.runT hW (exS_ok hW) (by decide) (by kernel_rfl) hr
end Fw.Tz
