/-
  PrimsTable: what its callees answer at chunk, numbers from 33, and the law there.
-/
import Derived.Test.YtlgnmcfckgokdaaGreatDoorSf
import Derived.Test.YtlgnmcfckgokdaaGreatDoorSg

set_option linter.unusedVariables false
set_option maxRecDepth 1000000
set_option maxHeartbeats 1000000
namespace Fw.Tz
open Go Go.Proofs Fw.X
variable {W : World}
theorem kc8_32 (W : World) : pcX W ktS exS 40 18 [.d (.str [99, 104, 117, 110, 107]), .d (.int .i64 (Int.ofNat (32 + 1)))] = some (.tuple [.agg (scC (Int.ofNat (32 + 1))), .d (.int .i64 0)]) := by kernel_rfl
theorem kc6_32 (W : World) : pcX W ktS exS 40 26 [.d (.str [99, 104, 117, 110, 107]), .d (.int .i64 (Int.ofNat (32 + 1)))] = some (.tuple [.agg (scC (Int.ofNat (32 + 1))), .d (.int .i64 0)]) := by kernel_rfl
theorem cc_32 (W : World) : chk7 W (primC sg_chunk) (primC sg_chunk) (scC (Int.ofNat (32 + 1))) (scC (Int.ofNat (32 + 1))) true true 0 0 [] [] false false false false := by unfold chk7; kernel_rfl
theorem kc8_33 (W : World) : pcX W ktS exS 40 18 [.d (.str [99, 104, 117, 110, 107]), .d (.int .i64 (Int.ofNat (33 + 1)))] = some (.tuple [.agg (scC (Int.ofNat (33 + 1))), .d (.int .i64 0)]) := by kernel_rfl
theorem kc6_33 (W : World) : pcX W ktS exS 40 26 [.d (.str [99, 104, 117, 110, 107]), .d (.int .i64 (Int.ofNat (33 + 1)))] = some (.tuple [.agg (scC (Int.ofNat (33 + 1))), .d (.int .i64 0)]) := by kernel_rfl
theorem cc_33 (W : World) : chk7 W (primC sg_chunk) (primC sg_chunk) (scC (Int.ofNat (33 + 1))) (scC (Int.ofNat (33 + 1))) true true 0 0 [] [] false false false false := by unfold chk7; kernel_rfl
theorem kc8_34 (W : World) : pcX W ktS exS 40 18 [.d (.str [99, 104, 117, 110, 107]), .d (.int .i64 (Int.ofNat (34 + 1)))] = some (.tuple [.agg (scC (Int.ofNat (34 + 1))), .d (.int .i64 0)]) := by kernel_rfl
theorem kc6_34 (W : World) : pcX W ktS exS 40 26 [.d (.str [99, 104, 117, 110, 107]), .d (.int .i64 (Int.ofNat (34 + 1)))] = some (.tuple [.agg (scC (Int.ofNat (34 + 1))), .d (.int .i64 0)]) := by kernel_rfl
theorem cc_34 (W : World) : chk7 W (primC sg_chunk) (primC sg_chunk) (scC (Int.ofNat (34 + 1))) (scC (Int.ofNat (34 + 1))) true true 0 0 [] [] false false false false := by unfold chk7; kernel_rfl
theorem kc8_35 (W : World) : pcX W ktS exS 40 18 [.d (.str [99, 104, 117, 110, 107]), .d (.int .i64 (Int.ofNat (35 + 1)))] = some (.tuple [.agg (scC (Int.ofNat (35 + 1))), .d (.int .i64 0)]) := by kernel_rfl
theorem kc6_35 (W : World) : pcX W ktS exS 40 26 [.d (.str [99, 104, 117, 110, 107]), .d (.int .i64 (Int.ofNat (35 + 1)))] = some (.tuple [.agg (scC (Int.ofNat (35 + 1))), .d (.int .i64 0)]) := by kernel_rfl
theorem cc_35 (W : World) : chk7 W (primC sg_chunk) (primC sg_chunk) (scC (Int.ofNat (35 + 1))) (scC (Int.ofNat (35 + 1))) true true 0 0 [] [] false false false false := by unfold chk7; kernel_rfl
theorem kc8_36 (W : World) : pcX W ktS exS 40 18 [.d (.str [99, 104, 117, 110, 107]), .d (.int .i64 (Int.ofNat (36 + 1)))] = some (.tuple [.agg (scC (Int.ofNat (36 + 1))), .d (.int .i64 0)]) := by kernel_rfl
theorem kc6_36 (W : World) : pcX W ktS exS 40 26 [.d (.str [99, 104, 117, 110, 107]), .d (.int .i64 (Int.ofNat (36 + 1)))] = some (.tuple [.agg (scC (Int.ofNat (36 + 1))), .d (.int .i64 0)]) := by kernel_rfl
theorem cc_36 (W : World) : chk7 W (primC sg_chunk) (primC sg_chunk) (scC (Int.ofNat (36 + 1))) (scC (Int.ofNat (36 + 1))) true true 0 0 [] [] false false false false := by unfold chk7; kernel_rfl
theorem kc8_37 (W : World) : pcX W ktS exS 40 18 [.d (.str [99, 104, 117, 110, 107]), .d (.int .i64 (Int.ofNat (37 + 1)))] = some (.tuple [.agg (scC (Int.ofNat (37 + 1))), .d (.int .i64 0)]) := by kernel_rfl
theorem kc6_37 (W : World) : pcX W ktS exS 40 26 [.d (.str [99, 104, 117, 110, 107]), .d (.int .i64 (Int.ofNat (37 + 1)))] = some (.tuple [.agg (scC (Int.ofNat (37 + 1))), .d (.int .i64 0)]) := by kernel_rfl
theorem cc_37 (W : World) : chk7 W (primC sg_chunk) (primC sg_chunk) (scC (Int.ofNat (37 + 1))) (scC (Int.ofNat (37 + 1))) true true 0 0 [] [] false false false false := by unfold chk7; kernel_rfl
theorem kc8_38 (W : World) : pcX W ktS exS 40 18 [.d (.str [99, 104, 117, 110, 107]), .d (.int .i64 (Int.ofNat (38 + 1)))] = some (.tuple [.agg (scC (Int.ofNat (38 + 1))), .d (.int .i64 0)]) := by kernel_rfl
theorem kc6_38 (W : World) : pcX W ktS exS 40 26 [.d (.str [99, 104, 117, 110, 107]), .d (.int .i64 (Int.ofNat (38 + 1)))] = some (.tuple [.agg (scC (Int.ofNat (38 + 1))), .d (.int .i64 0)]) := by kernel_rfl
theorem cc_38 (W : World) : chk7 W (primC sg_chunk) (primC sg_chunk) (scC (Int.ofNat (38 + 1))) (scC (Int.ofNat (38 + 1))) true true 0 0 [] [] false false false false := by unfold chk7; kernel_rfl
theorem kc8_39 (W : World) : pcX W ktS exS 40 18 [.d (.str [99, 104, 117, 110, 107]), .d (.int .i64 (Int.ofNat (39 + 1)))] = some (.tuple [.agg (scC (Int.ofNat (39 + 1))), .d (.int .i64 0)]) := by kernel_rfl
theorem kc6_39 (W : World) : pcX W ktS exS 40 26 [.d (.str [99, 104, 117, 110, 107]), .d (.int .i64 (Int.ofNat (39 + 1)))] = some (.tuple [.agg (scC (Int.ofNat (39 + 1))), .d (.int .i64 0)]) := by kernel_rfl
theorem cc_39 (W : World) : chk7 W (primC sg_chunk) (primC sg_chunk) (scC (Int.ofNat (39 + 1))) (scC (Int.ofNat (39 + 1))) true true 0 0 [] [] false false false false := by unfold chk7; kernel_rfl
theorem kc8_40 (W : World) : pcX W ktS exS 40 18 [.d (.str [99, 104, 117, 110, 107]), .d (.int .i64 (Int.ofNat (40 + 1)))] = some (.tuple [.agg (scC (Int.ofNat (40 + 1))), .d (.int .i64 0)]) := by kernel_rfl
theorem kc6_40 (W : World) : pcX W ktS exS 40 26 [.d (.str [99, 104, 117, 110, 107]), .d (.int .i64 (Int.ofNat (40 + 1)))] = some (.tuple [.agg (scC (Int.ofNat (40 + 1))), .d (.int .i64 0)]) := by kernel_rfl
theorem cc_40 (W : World) : chk7 W (primC sg_chunk) (primC sg_chunk) (scC (Int.ofNat (40 + 1))) (scC (Int.ofNat (40 + 1))) true true 0 0 [] [] false false false false := by unfold chk7; kernel_rfl
theorem kc8_41 (W : World) : pcX W ktS exS 40 18 [.d (.str [99, 104, 117, 110, 107]), .d (.int .i64 (Int.ofNat (41 + 1)))] = some (.tuple [.agg (scC (Int.ofNat (41 + 1))), .d (.int .i64 0)]) := by kernel_rfl
theorem kc6_41 (W : World) : pcX W ktS exS 40 26 [.d (.str [99, 104, 117, 110, 107]), .d (.int .i64 (Int.ofNat (41 + 1)))] = some (.tuple [.agg (scC (Int.ofNat (41 + 1))), .d (.int .i64 0)]) := by kernel_rfl
theorem cc_41 (W : World) : chk7 W (primC sg_chunk) (primC sg_chunk) (scC (Int.ofNat (41 + 1))) (scC (Int.ofNat (41 + 1))) true true 0 0 [] [] false false false false := by unfold chk7; kernel_rfl
theorem kc8_42 (W : World) : pcX W ktS exS 40 18 [.d (.str [99, 104, 117, 110, 107]), .d (.int .i64 (Int.ofNat (42 + 1)))] = some (.tuple [.agg (scC (Int.ofNat (42 + 1))), .d (.int .i64 0)]) := by kernel_rfl
theorem kc6_42 (W : World) : pcX W ktS exS 40 26 [.d (.str [99, 104, 117, 110, 107]), .d (.int .i64 (Int.ofNat (42 + 1)))] = some (.tuple [.agg (scC (Int.ofNat (42 + 1))), .d (.int .i64 0)]) := by kernel_rfl
theorem cc_42 (W : World) : chk7 W (primC sg_chunk) (primC sg_chunk) (scC (Int.ofNat (42 + 1))) (scC (Int.ofNat (42 + 1))) true true 0 0 [] [] false false false false := by unfold chk7; kernel_rfl
theorem kc8_43 (W : World) : pcX W ktS exS 40 18 [.d (.str [99, 104, 117, 110, 107]), .d (.int .i64 (Int.ofNat (43 + 1)))] = some (.tuple [.agg (scC (Int.ofNat (43 + 1))), .d (.int .i64 0)]) := by kernel_rfl
theorem kc6_43 (W : World) : pcX W ktS exS 40 26 [.d (.str [99, 104, 117, 110, 107]), .d (.int .i64 (Int.ofNat (43 + 1)))] = some (.tuple [.agg (scC (Int.ofNat (43 + 1))), .d (.int .i64 0)]) := by kernel_rfl
theorem cc_43 (W : World) : chk7 W (primC sg_chunk) (primC sg_chunk) (scC (Int.ofNat (43 + 1))) (scC (Int.ofNat (43 + 1))) true true 0 0 [] [] false false false false := by unfold chk7; kernel_rfl
theorem kc8_44 (W : World) : pcX W ktS exS 40 18 [.d (.str [99, 104, 117, 110, 107]), .d (.int .i64 (Int.ofNat (44 + 1)))] = some (.tuple [.agg (scC (Int.ofNat (44 + 1))), .d (.int .i64 0)]) := by kernel_rfl
theorem kc6_44 (W : World) : pcX W ktS exS 40 26 [.d (.str [99, 104, 117, 110, 107]), .d (.int .i64 (Int.ofNat (44 + 1)))] = some (.tuple [.agg (scC (Int.ofNat (44 + 1))), .d (.int .i64 0)]) := by kernel_rfl
theorem cc_44 (W : World) : chk7 W (primC sg_chunk) (primC sg_chunk) (scC (Int.ofNat (44 + 1))) (scC (Int.ofNat (44 + 1))) true true 0 0 [] [] false false false false := by unfold chk7; kernel_rfl
theorem kc8_45 (W : World) : pcX W ktS exS 40 18 [.d (.str [99, 104, 117, 110, 107]), .d (.int .i64 (Int.ofNat (45 + 1)))] = some (.tuple [.agg (scC (Int.ofNat (45 + 1))), .d (.int .i64 0)]) := by kernel_rfl
theorem kc6_45 (W : World) : pcX W ktS exS 40 26 [.d (.str [99, 104, 117, 110, 107]), .d (.int .i64 (Int.ofNat (45 + 1)))] = some (.tuple [.agg (scC (Int.ofNat (45 + 1))), .d (.int .i64 0)]) := by kernel_rfl
theorem cc_45 (W : World) : chk7 W (primC sg_chunk) (primC sg_chunk) (scC (Int.ofNat (45 + 1))) (scC (Int.ofNat (45 + 1))) true true 0 0 [] [] false false false false := by unfold chk7; kernel_rfl
theorem kc8_46 (W : World) : pcX W ktS exS 40 18 [.d (.str [99, 104, 117, 110, 107]), .d (.int .i64 (Int.ofNat (46 + 1)))] = some (.tuple [.agg (scC (Int.ofNat (46 + 1))), .d (.int .i64 0)]) := by kernel_rfl
theorem kc6_46 (W : World) : pcX W ktS exS 40 26 [.d (.str [99, 104, 117, 110, 107]), .d (.int .i64 (Int.ofNat (46 + 1)))] = some (.tuple [.agg (scC (Int.ofNat (46 + 1))), .d (.int .i64 0)]) := by kernel_rfl
theorem cc_46 (W : World) : chk7 W (primC sg_chunk) (primC sg_chunk) (scC (Int.ofNat (46 + 1))) (scC (Int.ofNat (46 + 1))) true true 0 0 [] [] false false false false := by unfold chk7; kernel_rfl
theorem kc8_47 (W : World) : pcX W ktS exS 40 18 [.d (.str [99, 104, 117, 110, 107]), .d (.int .i64 (Int.ofNat (47 + 1)))] = some (.tuple [.agg (scC (Int.ofNat (47 + 1))), .d (.int .i64 0)]) := by kernel_rfl
theorem kc6_47 (W : World) : pcX W ktS exS 40 26 [.d (.str [99, 104, 117, 110, 107]), .d (.int .i64 (Int.ofNat (47 + 1)))] = some (.tuple [.agg (scC (Int.ofNat (47 + 1))), .d (.int .i64 0)]) := by kernel_rfl
theorem cc_47 (W : World) : chk7 W (primC sg_chunk) (primC sg_chunk) (scC (Int.ofNat (47 + 1))) (scC (Int.ofNat (47 + 1))) true true 0 0 [] [] false false false false := by unfold chk7; kernel_rfl
end Fw.Tz
