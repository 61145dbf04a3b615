/-
  PrimsTable: what its callees answer at chunk, numbers from 49, and the law there.
-/
import Derived.Test.YtlgnmcfckgokdaaGreatDoorSf
import Derived.Test.YtlgnmcfckgokdaaGreatDoorSg

set_option linter.unusedVariables false
set_option maxRecDepth 1000000
set_option maxHeartbeats 1000000
namespace Fw.Tz
open Go Go.Proofs Fw.X
variable {W : World}
theorem kc8_48 (W : World) : pcX W ktS exS 40 18 [.d (.str [99, 104, 117, 110, 107]), .d (.int .i64 (Int.ofNat (48 + 1)))] = some (.tuple [.agg (scC (Int.ofNat (48 + 1))), .d (.int .i64 0)]) := by kernel_rfl
theorem kc6_48 (W : World) : pcX W ktS exS 40 26 [.d (.str [99, 104, 117, 110, 107]), .d (.int .i64 (Int.ofNat (48 + 1)))] = some (.tuple [.agg (scC (Int.ofNat (48 + 1))), .d (.int .i64 0)]) := by kernel_rfl
theorem cc_48 (W : World) : chk7 W (primC sg_chunk) (primC sg_chunk) (scC (Int.ofNat (48 + 1))) (scC (Int.ofNat (48 + 1))) true true 0 0 [] [] false false false false := by unfold chk7; kernel_rfl
theorem kc8_49 (W : World) : pcX W ktS exS 40 18 [.d (.str [99, 104, 117, 110, 107]), .d (.int .i64 (Int.ofNat (49 + 1)))] = some (.tuple [.agg (scC (Int.ofNat (49 + 1))), .d (.int .i64 0)]) := by kernel_rfl
theorem kc6_49 (W : World) : pcX W ktS exS 40 26 [.d (.str [99, 104, 117, 110, 107]), .d (.int .i64 (Int.ofNat (49 + 1)))] = some (.tuple [.agg (scC (Int.ofNat (49 + 1))), .d (.int .i64 0)]) := by kernel_rfl
theorem cc_49 (W : World) : chk7 W (primC sg_chunk) (primC sg_chunk) (scC (Int.ofNat (49 + 1))) (scC (Int.ofNat (49 + 1))) true true 0 0 [] [] false false false false := by unfold chk7; kernel_rfl
theorem kc8_50 (W : World) : pcX W ktS exS 40 18 [.d (.str [99, 104, 117, 110, 107]), .d (.int .i64 (Int.ofNat (50 + 1)))] = some (.tuple [.agg (scC (Int.ofNat (50 + 1))), .d (.int .i64 0)]) := by kernel_rfl
theorem kc6_50 (W : World) : pcX W ktS exS 40 26 [.d (.str [99, 104, 117, 110, 107]), .d (.int .i64 (Int.ofNat (50 + 1)))] = some (.tuple [.agg (scC (Int.ofNat (50 + 1))), .d (.int .i64 0)]) := by kernel_rfl
theorem cc_50 (W : World) : chk7 W (primC sg_chunk) (primC sg_chunk) (scC (Int.ofNat (50 + 1))) (scC (Int.ofNat (50 + 1))) true true 0 0 [] [] false false false false := by unfold chk7; kernel_rfl
theorem kc8_51 (W : World) : pcX W ktS exS 40 18 [.d (.str [99, 104, 117, 110, 107]), .d (.int .i64 (Int.ofNat (51 + 1)))] = some (.tuple [.agg (scC (Int.ofNat (51 + 1))), .d (.int .i64 0)]) := by kernel_rfl
theorem kc6_51 (W : World) : pcX W ktS exS 40 26 [.d (.str [99, 104, 117, 110, 107]), .d (.int .i64 (Int.ofNat (51 + 1)))] = some (.tuple [.agg (scC (Int.ofNat (51 + 1))), .d (.int .i64 0)]) := by kernel_rfl
theorem cc_51 (W : World) : chk7 W (primC sg_chunk) (primC sg_chunk) (scC (Int.ofNat (51 + 1))) (scC (Int.ofNat (51 + 1))) true true 0 0 [] [] false false false false := by unfold chk7; kernel_rfl
theorem kc8_52 (W : World) : pcX W ktS exS 40 18 [.d (.str [99, 104, 117, 110, 107]), .d (.int .i64 (Int.ofNat (52 + 1)))] = some (.tuple [.agg (scC (Int.ofNat (52 + 1))), .d (.int .i64 0)]) := by kernel_rfl
theorem kc6_52 (W : World) : pcX W ktS exS 40 26 [.d (.str [99, 104, 117, 110, 107]), .d (.int .i64 (Int.ofNat (52 + 1)))] = some (.tuple [.agg (scC (Int.ofNat (52 + 1))), .d (.int .i64 0)]) := by kernel_rfl
theorem cc_52 (W : World) : chk7 W (primC sg_chunk) (primC sg_chunk) (scC (Int.ofNat (52 + 1))) (scC (Int.ofNat (52 + 1))) true true 0 0 [] [] false false false false := by unfold chk7; kernel_rfl
theorem kc8_53 (W : World) : pcX W ktS exS 40 18 [.d (.str [99, 104, 117, 110, 107]), .d (.int .i64 (Int.ofNat (53 + 1)))] = some (.tuple [.agg (scC (Int.ofNat (53 + 1))), .d (.int .i64 0)]) := by kernel_rfl
theorem kc6_53 (W : World) : pcX W ktS exS 40 26 [.d (.str [99, 104, 117, 110, 107]), .d (.int .i64 (Int.ofNat (53 + 1)))] = some (.tuple [.agg (scC (Int.ofNat (53 + 1))), .d (.int .i64 0)]) := by kernel_rfl
theorem cc_53 (W : World) : chk7 W (primC sg_chunk) (primC sg_chunk) (scC (Int.ofNat (53 + 1))) (scC (Int.ofNat (53 + 1))) true true 0 0 [] [] false false false false := by unfold chk7; kernel_rfl
theorem kc8_54 (W : World) : pcX W ktS exS 40 18 [.d (.str [99, 104, 117, 110, 107]), .d (.int .i64 (Int.ofNat (54 + 1)))] = some (.tuple [.agg (scC (Int.ofNat (54 + 1))), .d (.int .i64 0)]) := by kernel_rfl
theorem kc6_54 (W : World) : pcX W ktS exS 40 26 [.d (.str [99, 104, 117, 110, 107]), .d (.int .i64 (Int.ofNat (54 + 1)))] = some (.tuple [.agg (scC (Int.ofNat (54 + 1))), .d (.int .i64 0)]) := by kernel_rfl
theorem cc_54 (W : World) : chk7 W (primC sg_chunk) (primC sg_chunk) (scC (Int.ofNat (54 + 1))) (scC (Int.ofNat (54 + 1))) true true 0 0 [] [] false false false false := by unfold chk7; kernel_rfl
theorem kc8_55 (W : World) : pcX W ktS exS 40 18 [.d (.str [99, 104, 117, 110, 107]), .d (.int .i64 (Int.ofNat (55 + 1)))] = some (.tuple [.agg (scC (Int.ofNat (55 + 1))), .d (.int .i64 0)]) := by kernel_rfl
theorem kc6_55 (W : World) : pcX W ktS exS 40 26 [.d (.str [99, 104, 117, 110, 107]), .d (.int .i64 (Int.ofNat (55 + 1)))] = some (.tuple [.agg (scC (Int.ofNat (55 + 1))), .d (.int .i64 0)]) := by kernel_rfl
theorem cc_55 (W : World) : chk7 W (primC sg_chunk) (primC sg_chunk) (scC (Int.ofNat (55 + 1))) (scC (Int.ofNat (55 + 1))) true true 0 0 [] [] false false false false := by unfold chk7; kernel_rfl
theorem kc8_56 (W : World) : pcX W ktS exS 40 18 [.d (.str [99, 104, 117, 110, 107]), .d (.int .i64 (Int.ofNat (56 + 1)))] = some (.tuple [.agg (scC (Int.ofNat (56 + 1))), .d (.int .i64 0)]) := by kernel_rfl
theorem kc6_56 (W : World) : pcX W ktS exS 40 26 [.d (.str [99, 104, 117, 110, 107]), .d (.int .i64 (Int.ofNat (56 + 1)))] = some (.tuple [.agg (scC (Int.ofNat (56 + 1))), .d (.int .i64 0)]) := by kernel_rfl
theorem cc_56 (W : World) : chk7 W (primC sg_chunk) (primC sg_chunk) (scC (Int.ofNat (56 + 1))) (scC (Int.ofNat (56 + 1))) true true 0 0 [] [] false false false false := by unfold chk7; kernel_rfl
theorem kc8_57 (W : World) : pcX W ktS exS 40 18 [.d (.str [99, 104, 117, 110, 107]), .d (.int .i64 (Int.ofNat (57 + 1)))] = some (.tuple [.agg (scC (Int.ofNat (57 + 1))), .d (.int .i64 0)]) := by kernel_rfl
theorem kc6_57 (W : World) : pcX W ktS exS 40 26 [.d (.str [99, 104, 117, 110, 107]), .d (.int .i64 (Int.ofNat (57 + 1)))] = some (.tuple [.agg (scC (Int.ofNat (57 + 1))), .d (.int .i64 0)]) := by kernel_rfl
theorem cc_57 (W : World) : chk7 W (primC sg_chunk) (primC sg_chunk) (scC (Int.ofNat (57 + 1))) (scC (Int.ofNat (57 + 1))) true true 0 0 [] [] false false false false := by unfold chk7; kernel_rfl
theorem kc8_58 (W : World) : pcX W ktS exS 40 18 [.d (.str [99, 104, 117, 110, 107]), .d (.int .i64 (Int.ofNat (58 + 1)))] = some (.tuple [.agg (scC (Int.ofNat (58 + 1))), .d (.int .i64 0)]) := by kernel_rfl
theorem kc6_58 (W : World) : pcX W ktS exS 40 26 [.d (.str [99, 104, 117, 110, 107]), .d (.int .i64 (Int.ofNat (58 + 1)))] = some (.tuple [.agg (scC (Int.ofNat (58 + 1))), .d (.int .i64 0)]) := by kernel_rfl
theorem cc_58 (W : World) : chk7 W (primC sg_chunk) (primC sg_chunk) (scC (Int.ofNat (58 + 1))) (scC (Int.ofNat (58 + 1))) true true 0 0 [] [] false false false false := by unfold chk7; kernel_rfl
theorem kc8_59 (W : World) : pcX W ktS exS 40 18 [.d (.str [99, 104, 117, 110, 107]), .d (.int .i64 (Int.ofNat (59 + 1)))] = some (.tuple [.agg (scC (Int.ofNat (59 + 1))), .d (.int .i64 0)]) := by kernel_rfl
theorem kc6_59 (W : World) : pcX W ktS exS 40 26 [.d (.str [99, 104, 117, 110, 107]), .d (.int .i64 (Int.ofNat (59 + 1)))] = some (.tuple [.agg (scC (Int.ofNat (59 + 1))), .d (.int .i64 0)]) := by kernel_rfl
theorem cc_59 (W : World) : chk7 W (primC sg_chunk) (primC sg_chunk) (scC (Int.ofNat (59 + 1))) (scC (Int.ofNat (59 + 1))) true true 0 0 [] [] false false false false := by unfold chk7; kernel_rfl
theorem kc8_60 (W : World) : pcX W ktS exS 40 18 [.d (.str [99, 104, 117, 110, 107]), .d (.int .i64 (Int.ofNat (60 + 1)))] = some (.tuple [.agg (scC (Int.ofNat (60 + 1))), .d (.int .i64 0)]) := by kernel_rfl
theorem kc6_60 (W : World) : pcX W ktS exS 40 26 [.d (.str [99, 104, 117, 110, 107]), .d (.int .i64 (Int.ofNat (60 + 1)))] = some (.tuple [.agg (scC (Int.ofNat (60 + 1))), .d (.int .i64 0)]) := by kernel_rfl
theorem cc_60 (W : World) : chk7 W (primC sg_chunk) (primC sg_chunk) (scC (Int.ofNat (60 + 1))) (scC (Int.ofNat (60 + 1))) true true 0 0 [] [] false false false false := by unfold chk7; kernel_rfl
theorem kc8_61 (W : World) : pcX W ktS exS 40 18 [.d (.str [99, 104, 117, 110, 107]), .d (.int .i64 (Int.ofNat (61 + 1)))] = some (.tuple [.agg (scC (Int.ofNat (61 + 1))), .d (.int .i64 0)]) := by kernel_rfl
theorem kc6_61 (W : World) : pcX W ktS exS 40 26 [.d (.str [99, 104, 117, 110, 107]), .d (.int .i64 (Int.ofNat (61 + 1)))] = some (.tuple [.agg (scC (Int.ofNat (61 + 1))), .d (.int .i64 0)]) := by kernel_rfl
theorem cc_61 (W : World) : chk7 W (primC sg_chunk) (primC sg_chunk) (scC (Int.ofNat (61 + 1))) (scC (Int.ofNat (61 + 1))) true true 0 0 [] [] false false false false := by unfold chk7; kernel_rfl
theorem kc8_62 (W : World) : pcX W ktS exS 40 18 [.d (.str [99, 104, 117, 110, 107]), .d (.int .i64 (Int.ofNat (62 + 1)))] = some (.tuple [.agg (scC (Int.ofNat (62 + 1))), .d (.int .i64 0)]) := by kernel_rfl
theorem kc6_62 (W : World) : pcX W ktS exS 40 26 [.d (.str [99, 104, 117, 110, 107]), .d (.int .i64 (Int.ofNat (62 + 1)))] = some (.tuple [.agg (scC (Int.ofNat (62 + 1))), .d (.int .i64 0)]) := by kernel_rfl
theorem cc_62 (W : World) : chk7 W (primC sg_chunk) (primC sg_chunk) (scC (Int.ofNat (62 + 1))) (scC (Int.ofNat (62 + 1))) true true 0 0 [] [] false false false false := by unfold chk7; kernel_rfl
theorem kc8_63 (W : World) : pcX W ktS exS 40 18 [.d (.str [99, 104, 117, 110, 107]), .d (.int .i64 (Int.ofNat (63 + 1)))] = some (.tuple [.agg (scC (Int.ofNat (63 + 1))), .d (.int .i64 0)]) := by kernel_rfl
theorem kc6_63 (W : World) : pcX W ktS exS 40 26 [.d (.str [99, 104, 117, 110, 107]), .d (.int .i64 (Int.ofNat (63 + 1)))] = some (.tuple [.agg (scC (Int.ofNat (63 + 1))), .d (.int .i64 0)]) := by kernel_rfl
theorem cc_63 (W : World) : chk7 W (primC sg_chunk) (primC sg_chunk) (scC (Int.ofNat (63 + 1))) (scC (Int.ofNat (63 + 1))) true true 0 0 [] [] false false false false := by unfold chk7; kernel_rfl
end Fw.Tz
