/-
  PrimsTable: what its callees answer at chunk, numbers from 17, and the law there.
-/
import Derived.Test.YtlgnmcfckgokdaaGreatDoorSf
import Derived.Test.YtlgnmcfckgokdaaGreatDoorSg

set_option linter.unusedVariables false
set_option maxRecDepth 1000000
set_option maxHeartbeats 1000000
namespace Fw.Tz
open Go Go.Proofs Fw.X
variable {W : World}
theorem kc8_16 (W : World) : pcX W ktS exS 40 18 [.d (.str [99, 104, 117, 110, 107]), .d (.int .i64 (Int.ofNat (16 + 1)))] = some (.tuple [.agg (scC (Int.ofNat (16 + 1))), .d (.int .i64 0)]) := by kernel_rfl
theorem kc6_16 (W : World) : pcX W ktS exS 40 26 [.d (.str [99, 104, 117, 110, 107]), .d (.int .i64 (Int.ofNat (16 + 1)))] = some (.tuple [.agg (scC (Int.ofNat (16 + 1))), .d (.int .i64 0)]) := by kernel_rfl
theorem cc_16 (W : World) : chk7 W (primC sg_chunk) (primC sg_chunk) (scC (Int.ofNat (16 + 1))) (scC (Int.ofNat (16 + 1))) true true 0 0 [] [] false false false false := by unfold chk7; kernel_rfl
theorem kc8_17 (W : World) : pcX W ktS exS 40 18 [.d (.str [99, 104, 117, 110, 107]), .d (.int .i64 (Int.ofNat (17 + 1)))] = some (.tuple [.agg (scC (Int.ofNat (17 + 1))), .d (.int .i64 0)]) := by kernel_rfl
theorem kc6_17 (W : World) : pcX W ktS exS 40 26 [.d (.str [99, 104, 117, 110, 107]), .d (.int .i64 (Int.ofNat (17 + 1)))] = some (.tuple [.agg (scC (Int.ofNat (17 + 1))), .d (.int .i64 0)]) := by kernel_rfl
theorem cc_17 (W : World) : chk7 W (primC sg_chunk) (primC sg_chunk) (scC (Int.ofNat (17 + 1))) (scC (Int.ofNat (17 + 1))) true true 0 0 [] [] false false false false := by unfold chk7; kernel_rfl
theorem kc8_18 (W : World) : pcX W ktS exS 40 18 [.d (.str [99, 104, 117, 110, 107]), .d (.int .i64 (Int.ofNat (18 + 1)))] = some (.tuple [.agg (scC (Int.ofNat (18 + 1))), .d (.int .i64 0)]) := by kernel_rfl
theorem kc6_18 (W : World) : pcX W ktS exS 40 26 [.d (.str [99, 104, 117, 110, 107]), .d (.int .i64 (Int.ofNat (18 + 1)))] = some (.tuple [.agg (scC (Int.ofNat (18 + 1))), .d (.int .i64 0)]) := by kernel_rfl
theorem cc_18 (W : World) : chk7 W (primC sg_chunk) (primC sg_chunk) (scC (Int.ofNat (18 + 1))) (scC (Int.ofNat (18 + 1))) true true 0 0 [] [] false false false false := by unfold chk7; kernel_rfl
theorem kc8_19 (W : World) : pcX W ktS exS 40 18 [.d (.str [99, 104, 117, 110, 107]), .d (.int .i64 (Int.ofNat (19 + 1)))] = some (.tuple [.agg (scC (Int.ofNat (19 + 1))), .d (.int .i64 0)]) := by kernel_rfl
theorem kc6_19 (W : World) : pcX W ktS exS 40 26 [.d (.str [99, 104, 117, 110, 107]), .d (.int .i64 (Int.ofNat (19 + 1)))] = some (.tuple [.agg (scC (Int.ofNat (19 + 1))), .d (.int .i64 0)]) := by kernel_rfl
theorem cc_19 (W : World) : chk7 W (primC sg_chunk) (primC sg_chunk) (scC (Int.ofNat (19 + 1))) (scC (Int.ofNat (19 + 1))) true true 0 0 [] [] false false false false := by unfold chk7; kernel_rfl
theorem kc8_20 (W : World) : pcX W ktS exS 40 18 [.d (.str [99, 104, 117, 110, 107]), .d (.int .i64 (Int.ofNat (20 + 1)))] = some (.tuple [.agg (scC (Int.ofNat (20 + 1))), .d (.int .i64 0)]) := by kernel_rfl
theorem kc6_20 (W : World) : pcX W ktS exS 40 26 [.d (.str [99, 104, 117, 110, 107]), .d (.int .i64 (Int.ofNat (20 + 1)))] = some (.tuple [.agg (scC (Int.ofNat (20 + 1))), .d (.int .i64 0)]) := by kernel_rfl
theorem cc_20 (W : World) : chk7 W (primC sg_chunk) (primC sg_chunk) (scC (Int.ofNat (20 + 1))) (scC (Int.ofNat (20 + 1))) true true 0 0 [] [] false false false false := by unfold chk7; kernel_rfl
theorem kc8_21 (W : World) : pcX W ktS exS 40 18 [.d (.str [99, 104, 117, 110, 107]), .d (.int .i64 (Int.ofNat (21 + 1)))] = some (.tuple [.agg (scC (Int.ofNat (21 + 1))), .d (.int .i64 0)]) := by kernel_rfl
theorem kc6_21 (W : World) : pcX W ktS exS 40 26 [.d (.str [99, 104, 117, 110, 107]), .d (.int .i64 (Int.ofNat (21 + 1)))] = some (.tuple [.agg (scC (Int.ofNat (21 + 1))), .d (.int .i64 0)]) := by kernel_rfl
theorem cc_21 (W : World) : chk7 W (primC sg_chunk) (primC sg_chunk) (scC (Int.ofNat (21 + 1))) (scC (Int.ofNat (21 + 1))) true true 0 0 [] [] false false false false := by unfold chk7; kernel_rfl
theorem kc8_22 (W : World) : pcX W ktS exS 40 18 [.d (.str [99, 104, 117, 110, 107]), .d (.int .i64 (Int.ofNat (22 + 1)))] = some (.tuple [.agg (scC (Int.ofNat (22 + 1))), .d (.int .i64 0)]) := by kernel_rfl
theorem kc6_22 (W : World) : pcX W ktS exS 40 26 [.d (.str [99, 104, 117, 110, 107]), .d (.int .i64 (Int.ofNat (22 + 1)))] = some (.tuple [.agg (scC (Int.ofNat (22 + 1))), .d (.int .i64 0)]) := by kernel_rfl
theorem cc_22 (W : World) : chk7 W (primC sg_chunk) (primC sg_chunk) (scC (Int.ofNat (22 + 1))) (scC (Int.ofNat (22 + 1))) true true 0 0 [] [] false false false false := by unfold chk7; kernel_rfl
theorem kc8_23 (W : World) : pcX W ktS exS 40 18 [.d (.str [99, 104, 117, 110, 107]), .d (.int .i64 (Int.ofNat (23 + 1)))] = some (.tuple [.agg (scC (Int.ofNat (23 + 1))), .d (.int .i64 0)]) := by kernel_rfl
theorem kc6_23 (W : World) : pcX W ktS exS 40 26 [.d (.str [99, 104, 117, 110, 107]), .d (.int .i64 (Int.ofNat (23 + 1)))] = some (.tuple [.agg (scC (Int.ofNat (23 + 1))), .d (.int .i64 0)]) := by kernel_rfl
theorem cc_23 (W : World) : chk7 W (primC sg_chunk) (primC sg_chunk) (scC (Int.ofNat (23 + 1))) (scC (Int.ofNat (23 + 1))) true true 0 0 [] [] false false false false := by unfold chk7; kernel_rfl
theorem kc8_24 (W : World) : pcX W ktS exS 40 18 [.d (.str [99, 104, 117, 110, 107]), .d (.int .i64 (Int.ofNat (24 + 1)))] = some (.tuple [.agg (scC (Int.ofNat (24 + 1))), .d (.int .i64 0)]) := by kernel_rfl
theorem kc6_24 (W : World) : pcX W ktS exS 40 26 [.d (.str [99, 104, 117, 110, 107]), .d (.int .i64 (Int.ofNat (24 + 1)))] = some (.tuple [.agg (scC (Int.ofNat (24 + 1))), .d (.int .i64 0)]) := by kernel_rfl
theorem cc_24 (W : World) : chk7 W (primC sg_chunk) (primC sg_chunk) (scC (Int.ofNat (24 + 1))) (scC (Int.ofNat (24 + 1))) true true 0 0 [] [] false false false false := by unfold chk7; kernel_rfl
theorem kc8_25 (W : World) : pcX W ktS exS 40 18 [.d (.str [99, 104, 117, 110, 107]), .d (.int .i64 (Int.ofNat (25 + 1)))] = some (.tuple [.agg (scC (Int.ofNat (25 + 1))), .d (.int .i64 0)]) := by kernel_rfl
theorem kc6_25 (W : World) : pcX W ktS exS 40 26 [.d (.str [99, 104, 117, 110, 107]), .d (.int .i64 (Int.ofNat (25 + 1)))] = some (.tuple [.agg (scC (Int.ofNat (25 + 1))), .d (.int .i64 0)]) := by kernel_rfl
theorem cc_25 (W : World) : chk7 W (primC sg_chunk) (primC sg_chunk) (scC (Int.ofNat (25 + 1))) (scC (Int.ofNat (25 + 1))) true true 0 0 [] [] false false false false := by unfold chk7; kernel_rfl
theorem kc8_26 (W : World) : pcX W ktS exS 40 18 [.d (.str [99, 104, 117, 110, 107]), .d (.int .i64 (Int.ofNat (26 + 1)))] = some (.tuple [.agg (scC (Int.ofNat (26 + 1))), .d (.int .i64 0)]) := by kernel_rfl
theorem kc6_26 (W : World) : pcX W ktS exS 40 26 [.d (.str [99, 104, 117, 110, 107]), .d (.int .i64 (Int.ofNat (26 + 1)))] = some (.tuple [.agg (scC (Int.ofNat (26 + 1))), .d (.int .i64 0)]) := by kernel_rfl
theorem cc_26 (W : World) : chk7 W (primC sg_chunk) (primC sg_chunk) (scC (Int.ofNat (26 + 1))) (scC (Int.ofNat (26 + 1))) true true 0 0 [] [] false false false false := by unfold chk7; kernel_rfl
theorem kc8_27 (W : World) : pcX W ktS exS 40 18 [.d (.str [99, 104, 117, 110, 107]), .d (.int .i64 (Int.ofNat (27 + 1)))] = some (.tuple [.agg (scC (Int.ofNat (27 + 1))), .d (.int .i64 0)]) := by kernel_rfl
theorem kc6_27 (W : World) : pcX W ktS exS 40 26 [.d (.str [99, 104, 117, 110, 107]), .d (.int .i64 (Int.ofNat (27 + 1)))] = some (.tuple [.agg (scC (Int.ofNat (27 + 1))), .d (.int .i64 0)]) := by kernel_rfl
theorem cc_27 (W : World) : chk7 W (primC sg_chunk) (primC sg_chunk) (scC (Int.ofNat (27 + 1))) (scC (Int.ofNat (27 + 1))) true true 0 0 [] [] false false false false := by unfold chk7; kernel_rfl
theorem kc8_28 (W : World) : pcX W ktS exS 40 18 [.d (.str [99, 104, 117, 110, 107]), .d (.int .i64 (Int.ofNat (28 + 1)))] = some (.tuple [.agg (scC (Int.ofNat (28 + 1))), .d (.int .i64 0)]) := by kernel_rfl
theorem kc6_28 (W : World) : pcX W ktS exS 40 26 [.d (.str [99, 104, 117, 110, 107]), .d (.int .i64 (Int.ofNat (28 + 1)))] = some (.tuple [.agg (scC (Int.ofNat (28 + 1))), .d (.int .i64 0)]) := by kernel_rfl
theorem cc_28 (W : World) : chk7 W (primC sg_chunk) (primC sg_chunk) (scC (Int.ofNat (28 + 1))) (scC (Int.ofNat (28 + 1))) true true 0 0 [] [] false false false false := by unfold chk7; kernel_rfl
theorem kc8_29 (W : World) : pcX W ktS exS 40 18 [.d (.str [99, 104, 117, 110, 107]), .d (.int .i64 (Int.ofNat (29 + 1)))] = some (.tuple [.agg (scC (Int.ofNat (29 + 1))), .d (.int .i64 0)]) := by kernel_rfl
theorem kc6_29 (W : World) : pcX W ktS exS 40 26 [.d (.str [99, 104, 117, 110, 107]), .d (.int .i64 (Int.ofNat (29 + 1)))] = some (.tuple [.agg (scC (Int.ofNat (29 + 1))), .d (.int .i64 0)]) := by kernel_rfl
theorem cc_29 (W : World) : chk7 W (primC sg_chunk) (primC sg_chunk) (scC (Int.ofNat (29 + 1))) (scC (Int.ofNat (29 + 1))) true true 0 0 [] [] false false false false := by unfold chk7; kernel_rfl
theorem kc8_30 (W : World) : pcX W ktS exS 40 18 [.d (.str [99, 104, 117, 110, 107]), .d (.int .i64 (Int.ofNat (30 + 1)))] = some (.tuple [.agg (scC (Int.ofNat (30 + 1))), .d (.int .i64 0)]) := by kernel_rfl
theorem kc6_30 (W : World) : pcX W ktS exS 40 26 [.d (.str [99, 104, 117, 110, 107]), .d (.int .i64 (Int.ofNat (30 + 1)))] = some (.tuple [.agg (scC (Int.ofNat (30 + 1))), .d (.int .i64 0)]) := by kernel_rfl
theorem cc_30 (W : World) : chk7 W (primC sg_chunk) (primC sg_chunk) (scC (Int.ofNat (30 + 1))) (scC (Int.ofNat (30 + 1))) true true 0 0 [] [] false false false false := by unfold chk7; kernel_rfl
theorem kc8_31 (W : World) : pcX W ktS exS 40 18 [.d (.str [99, 104, 117, 110, 107]), .d (.int .i64 (Int.ofNat (31 + 1)))] = some (.tuple [.agg (scC (Int.ofNat (31 + 1))), .d (.int .i64 0)]) := by kernel_rfl
theorem kc6_31 (W : World) : pcX W ktS exS 40 26 [.d (.str [99, 104, 117, 110, 107]), .d (.int .i64 (Int.ofNat (31 + 1)))] = some (.tuple [.agg (scC (Int.ofNat (31 + 1))), .d (.int .i64 0)]) := by kernel_rfl
theorem cc_31 (W : World) : chk7 W (primC sg_chunk) (primC sg_chunk) (scC (Int.ofNat (31 + 1))) (scC (Int.ofNat (31 + 1))) true true 0 0 [] [] false false false false := by unfold chk7; kernel_rfl
end Fw.Tz
