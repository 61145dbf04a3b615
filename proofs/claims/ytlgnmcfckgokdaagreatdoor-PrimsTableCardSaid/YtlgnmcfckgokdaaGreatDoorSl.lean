/-
  PrimsTable: what its callees answer at chunk, numbers from 1, and the law there.
-/
import Derived.Test.YtlgnmcfckgokdaaGreatDoorSf
import Derived.Test.YtlgnmcfckgokdaaGreatDoorSg

set_option linter.unusedVariables false
set_option maxRecDepth 1000000
set_option maxHeartbeats 1000000
namespace Fw.Tz
open Go Go.Proofs Fw.X
variable {W : World}
theorem kc8_0 (W : World) : pcX W ktS exS 40 18 [.d (.str [99, 104, 117, 110, 107]), .d (.int .i64 (Int.ofNat (0 + 1)))] = some (.tuple [.agg (scC (Int.ofNat (0 + 1))), .d (.int .i64 0)]) := by kernel_rfl
theorem kc6_0 (W : World) : pcX W ktS exS 40 26 [.d (.str [99, 104, 117, 110, 107]), .d (.int .i64 (Int.ofNat (0 + 1)))] = some (.tuple [.agg (scC (Int.ofNat (0 + 1))), .d (.int .i64 0)]) := by kernel_rfl
theorem cc_0 (W : World) : chk7 W (primC sg_chunk) (primC sg_chunk) (scC (Int.ofNat (0 + 1))) (scC (Int.ofNat (0 + 1))) true true 0 0 [] [] false false false false := by unfold chk7; kernel_rfl
theorem kc8_1 (W : World) : pcX W ktS exS 40 18 [.d (.str [99, 104, 117, 110, 107]), .d (.int .i64 (Int.ofNat (1 + 1)))] = some (.tuple [.agg (scC (Int.ofNat (1 + 1))), .d (.int .i64 0)]) := by kernel_rfl
theorem kc6_1 (W : World) : pcX W ktS exS 40 26 [.d (.str [99, 104, 117, 110, 107]), .d (.int .i64 (Int.ofNat (1 + 1)))] = some (.tuple [.agg (scC (Int.ofNat (1 + 1))), .d (.int .i64 0)]) := by kernel_rfl
theorem cc_1 (W : World) : chk7 W (primC sg_chunk) (primC sg_chunk) (scC (Int.ofNat (1 + 1))) (scC (Int.ofNat (1 + 1))) true true 0 0 [] [] false false false false := by unfold chk7; kernel_rfl
theorem kc8_2 (W : World) : pcX W ktS exS 40 18 [.d (.str [99, 104, 117, 110, 107]), .d (.int .i64 (Int.ofNat (2 + 1)))] = some (.tuple [.agg (scC (Int.ofNat (2 + 1))), .d (.int .i64 0)]) := by kernel_rfl
theorem kc6_2 (W : World) : pcX W ktS exS 40 26 [.d (.str [99, 104, 117, 110, 107]), .d (.int .i64 (Int.ofNat (2 + 1)))] = some (.tuple [.agg (scC (Int.ofNat (2 + 1))), .d (.int .i64 0)]) := by kernel_rfl
theorem cc_2 (W : World) : chk7 W (primC sg_chunk) (primC sg_chunk) (scC (Int.ofNat (2 + 1))) (scC (Int.ofNat (2 + 1))) true true 0 0 [] [] false false false false := by unfold chk7; kernel_rfl
theorem kc8_3 (W : World) : pcX W ktS exS 40 18 [.d (.str [99, 104, 117, 110, 107]), .d (.int .i64 (Int.ofNat (3 + 1)))] = some (.tuple [.agg (scC (Int.ofNat (3 + 1))), .d (.int .i64 0)]) := by kernel_rfl
theorem kc6_3 (W : World) : pcX W ktS exS 40 26 [.d (.str [99, 104, 117, 110, 107]), .d (.int .i64 (Int.ofNat (3 + 1)))] = some (.tuple [.agg (scC (Int.ofNat (3 + 1))), .d (.int .i64 0)]) := by kernel_rfl
theorem cc_3 (W : World) : chk7 W (primC sg_chunk) (primC sg_chunk) (scC (Int.ofNat (3 + 1))) (scC (Int.ofNat (3 + 1))) true true 0 0 [] [] false false false false := by unfold chk7; kernel_rfl
theorem kc8_4 (W : World) : pcX W ktS exS 40 18 [.d (.str [99, 104, 117, 110, 107]), .d (.int .i64 (Int.ofNat (4 + 1)))] = some (.tuple [.agg (scC (Int.ofNat (4 + 1))), .d (.int .i64 0)]) := by kernel_rfl
theorem kc6_4 (W : World) : pcX W ktS exS 40 26 [.d (.str [99, 104, 117, 110, 107]), .d (.int .i64 (Int.ofNat (4 + 1)))] = some (.tuple [.agg (scC (Int.ofNat (4 + 1))), .d (.int .i64 0)]) := by kernel_rfl
theorem cc_4 (W : World) : chk7 W (primC sg_chunk) (primC sg_chunk) (scC (Int.ofNat (4 + 1))) (scC (Int.ofNat (4 + 1))) true true 0 0 [] [] false false false false := by unfold chk7; kernel_rfl
theorem kc8_5 (W : World) : pcX W ktS exS 40 18 [.d (.str [99, 104, 117, 110, 107]), .d (.int .i64 (Int.ofNat (5 + 1)))] = some (.tuple [.agg (scC (Int.ofNat (5 + 1))), .d (.int .i64 0)]) := by kernel_rfl
theorem kc6_5 (W : World) : pcX W ktS exS 40 26 [.d (.str [99, 104, 117, 110, 107]), .d (.int .i64 (Int.ofNat (5 + 1)))] = some (.tuple [.agg (scC (Int.ofNat (5 + 1))), .d (.int .i64 0)]) := by kernel_rfl
theorem cc_5 (W : World) : chk7 W (primC sg_chunk) (primC sg_chunk) (scC (Int.ofNat (5 + 1))) (scC (Int.ofNat (5 + 1))) true true 0 0 [] [] false false false false := by unfold chk7; kernel_rfl
theorem kc8_6 (W : World) : pcX W ktS exS 40 18 [.d (.str [99, 104, 117, 110, 107]), .d (.int .i64 (Int.ofNat (6 + 1)))] = some (.tuple [.agg (scC (Int.ofNat (6 + 1))), .d (.int .i64 0)]) := by kernel_rfl
theorem kc6_6 (W : World) : pcX W ktS exS 40 26 [.d (.str [99, 104, 117, 110, 107]), .d (.int .i64 (Int.ofNat (6 + 1)))] = some (.tuple [.agg (scC (Int.ofNat (6 + 1))), .d (.int .i64 0)]) := by kernel_rfl
theorem cc_6 (W : World) : chk7 W (primC sg_chunk) (primC sg_chunk) (scC (Int.ofNat (6 + 1))) (scC (Int.ofNat (6 + 1))) true true 0 0 [] [] false false false false := by unfold chk7; kernel_rfl
theorem kc8_7 (W : World) : pcX W ktS exS 40 18 [.d (.str [99, 104, 117, 110, 107]), .d (.int .i64 (Int.ofNat (7 + 1)))] = some (.tuple [.agg (scC (Int.ofNat (7 + 1))), .d (.int .i64 0)]) := by kernel_rfl
theorem kc6_7 (W : World) : pcX W ktS exS 40 26 [.d (.str [99, 104, 117, 110, 107]), .d (.int .i64 (Int.ofNat (7 + 1)))] = some (.tuple [.agg (scC (Int.ofNat (7 + 1))), .d (.int .i64 0)]) := by kernel_rfl
theorem cc_7 (W : World) : chk7 W (primC sg_chunk) (primC sg_chunk) (scC (Int.ofNat (7 + 1))) (scC (Int.ofNat (7 + 1))) true true 0 0 [] [] false false false false := by unfold chk7; kernel_rfl
theorem kc8_8 (W : World) : pcX W ktS exS 40 18 [.d (.str [99, 104, 117, 110, 107]), .d (.int .i64 (Int.ofNat (8 + 1)))] = some (.tuple [.agg (scC (Int.ofNat (8 + 1))), .d (.int .i64 0)]) := by kernel_rfl
theorem kc6_8 (W : World) : pcX W ktS exS 40 26 [.d (.str [99, 104, 117, 110, 107]), .d (.int .i64 (Int.ofNat (8 + 1)))] = some (.tuple [.agg (scC (Int.ofNat (8 + 1))), .d (.int .i64 0)]) := by kernel_rfl
theorem cc_8 (W : World) : chk7 W (primC sg_chunk) (primC sg_chunk) (scC (Int.ofNat (8 + 1))) (scC (Int.ofNat (8 + 1))) true true 0 0 [] [] false false false false := by unfold chk7; kernel_rfl
theorem kc8_9 (W : World) : pcX W ktS exS 40 18 [.d (.str [99, 104, 117, 110, 107]), .d (.int .i64 (Int.ofNat (9 + 1)))] = some (.tuple [.agg (scC (Int.ofNat (9 + 1))), .d (.int .i64 0)]) := by kernel_rfl
theorem kc6_9 (W : World) : pcX W ktS exS 40 26 [.d (.str [99, 104, 117, 110, 107]), .d (.int .i64 (Int.ofNat (9 + 1)))] = some (.tuple [.agg (scC (Int.ofNat (9 + 1))), .d (.int .i64 0)]) := by kernel_rfl
theorem cc_9 (W : World) : chk7 W (primC sg_chunk) (primC sg_chunk) (scC (Int.ofNat (9 + 1))) (scC (Int.ofNat (9 + 1))) true true 0 0 [] [] false false false false := by unfold chk7; kernel_rfl
theorem kc8_10 (W : World) : pcX W ktS exS 40 18 [.d (.str [99, 104, 117, 110, 107]), .d (.int .i64 (Int.ofNat (10 + 1)))] = some (.tuple [.agg (scC (Int.ofNat (10 + 1))), .d (.int .i64 0)]) := by kernel_rfl
theorem kc6_10 (W : World) : pcX W ktS exS 40 26 [.d (.str [99, 104, 117, 110, 107]), .d (.int .i64 (Int.ofNat (10 + 1)))] = some (.tuple [.agg (scC (Int.ofNat (10 + 1))), .d (.int .i64 0)]) := by kernel_rfl
theorem cc_10 (W : World) : chk7 W (primC sg_chunk) (primC sg_chunk) (scC (Int.ofNat (10 + 1))) (scC (Int.ofNat (10 + 1))) true true 0 0 [] [] false false false false := by unfold chk7; kernel_rfl
theorem kc8_11 (W : World) : pcX W ktS exS 40 18 [.d (.str [99, 104, 117, 110, 107]), .d (.int .i64 (Int.ofNat (11 + 1)))] = some (.tuple [.agg (scC (Int.ofNat (11 + 1))), .d (.int .i64 0)]) := by kernel_rfl
theorem kc6_11 (W : World) : pcX W ktS exS 40 26 [.d (.str [99, 104, 117, 110, 107]), .d (.int .i64 (Int.ofNat (11 + 1)))] = some (.tuple [.agg (scC (Int.ofNat (11 + 1))), .d (.int .i64 0)]) := by kernel_rfl
theorem cc_11 (W : World) : chk7 W (primC sg_chunk) (primC sg_chunk) (scC (Int.ofNat (11 + 1))) (scC (Int.ofNat (11 + 1))) true true 0 0 [] [] false false false false := by unfold chk7; kernel_rfl
theorem kc8_12 (W : World) : pcX W ktS exS 40 18 [.d (.str [99, 104, 117, 110, 107]), .d (.int .i64 (Int.ofNat (12 + 1)))] = some (.tuple [.agg (scC (Int.ofNat (12 + 1))), .d (.int .i64 0)]) := by kernel_rfl
theorem kc6_12 (W : World) : pcX W ktS exS 40 26 [.d (.str [99, 104, 117, 110, 107]), .d (.int .i64 (Int.ofNat (12 + 1)))] = some (.tuple [.agg (scC (Int.ofNat (12 + 1))), .d (.int .i64 0)]) := by kernel_rfl
theorem cc_12 (W : World) : chk7 W (primC sg_chunk) (primC sg_chunk) (scC (Int.ofNat (12 + 1))) (scC (Int.ofNat (12 + 1))) true true 0 0 [] [] false false false false := by unfold chk7; kernel_rfl
theorem kc8_13 (W : World) : pcX W ktS exS 40 18 [.d (.str [99, 104, 117, 110, 107]), .d (.int .i64 (Int.ofNat (13 + 1)))] = some (.tuple [.agg (scC (Int.ofNat (13 + 1))), .d (.int .i64 0)]) := by kernel_rfl
theorem kc6_13 (W : World) : pcX W ktS exS 40 26 [.d (.str [99, 104, 117, 110, 107]), .d (.int .i64 (Int.ofNat (13 + 1)))] = some (.tuple [.agg (scC (Int.ofNat (13 + 1))), .d (.int .i64 0)]) := by kernel_rfl
theorem cc_13 (W : World) : chk7 W (primC sg_chunk) (primC sg_chunk) (scC (Int.ofNat (13 + 1))) (scC (Int.ofNat (13 + 1))) true true 0 0 [] [] false false false false := by unfold chk7; kernel_rfl
theorem kc8_14 (W : World) : pcX W ktS exS 40 18 [.d (.str [99, 104, 117, 110, 107]), .d (.int .i64 (Int.ofNat (14 + 1)))] = some (.tuple [.agg (scC (Int.ofNat (14 + 1))), .d (.int .i64 0)]) := by kernel_rfl
theorem kc6_14 (W : World) : pcX W ktS exS 40 26 [.d (.str [99, 104, 117, 110, 107]), .d (.int .i64 (Int.ofNat (14 + 1)))] = some (.tuple [.agg (scC (Int.ofNat (14 + 1))), .d (.int .i64 0)]) := by kernel_rfl
theorem cc_14 (W : World) : chk7 W (primC sg_chunk) (primC sg_chunk) (scC (Int.ofNat (14 + 1))) (scC (Int.ofNat (14 + 1))) true true 0 0 [] [] false false false false := by unfold chk7; kernel_rfl
theorem kc8_15 (W : World) : pcX W ktS exS 40 18 [.d (.str [99, 104, 117, 110, 107]), .d (.int .i64 (Int.ofNat (15 + 1)))] = some (.tuple [.agg (scC (Int.ofNat (15 + 1))), .d (.int .i64 0)]) := by kernel_rfl
theorem kc6_15 (W : World) : pcX W ktS exS 40 26 [.d (.str [99, 104, 117, 110, 107]), .d (.int .i64 (Int.ofNat (15 + 1)))] = some (.tuple [.agg (scC (Int.ofNat (15 + 1))), .d (.int .i64 0)]) := by kernel_rfl
theorem cc_15 (W : World) : chk7 W (primC sg_chunk) (primC sg_chunk) (scC (Int.ofNat (15 + 1))) (scC (Int.ofNat (15 + 1))) true true 0 0 [] [] false false false false := by unfold chk7; kernel_rfl
end Fw.Tz
