/-
  PrimsTable: what its callees answer at and, drop, gt, lt, mul, or, sub, update, and the law there.
-/
import Derived.Test.YtlgnmcfckgokdaaGreatDoorSf
import Derived.Test.YtlgnmcfckgokdaaGreatDoorSg

set_option linter.unusedVariables false
set_option maxRecDepth 1000000
set_option maxHeartbeats 1000000
namespace Fw.Tz
open Go Go.Proofs Fw.X
variable {W : World}
theorem kr_and (W : World) : pcT W 40 25 [.d (.str [97, 110, 100])] = some (.tuple [.agg (primC sg_and), .d (.bool true)]) := by kernel_rfl
theorem kx_and (W : World) : pcT W 40 27 [.d (.str [97, 110, 100])] = some (.tuple [(.d (.str [38, 38])), (.d (.bool false)), (.d (.bool true))]) := by kernel_rfl
theorem ky_and (W : World) : pcT W 40 28 [.d (.str [97, 110, 100])] = some (.tuple [(.d (.str [38, 38])), (.d (.bool false)), (.d (.bool true))]) := by kernel_rfl
theorem cb_and (W : World) : chk7 W (primC sg_and) (primC sg_and) zS5 zS5 true true 1 1 [38, 38] [38, 38] false true false true := by unfold chk7; kernel_rfl
theorem k8_and (W : World) : pcX W ktS exS 40 18 [.d (.str [97, 110, 100]), .d (.int .i64 0)] = some (.tuple [.agg ((primC sg_and).drop 5), .d (.int .i64 0)]) := by kernel_rfl
theorem k6_and (W : World) : pcX W ktS exS 40 26 [.d (.str [97, 110, 100]), .d (.int .i64 0)] = some (.tuple [.agg ((primC sg_and).drop 5), .d (.int .i64 0)]) := by kernel_rfl
theorem c0_and (W : World) : chk7 W (primC sg_and) (primC sg_and) ((primC sg_and).drop 5) ((primC sg_and).drop 5) true true 0 0 [38, 38] [38, 38] false true false true := by unfold chk7; kernel_rfl
theorem l7_and (hW : W0 W) (n : Int) : PC P (gl W) 7 [.d (.str [97, 110, 100]), .d (.int .i64 n)] (.d (.bool true)) := by
  have hA : PC P (gl W) 17 [.d (.str [97, 110, 100])] (.tuple [.agg (primC sg_and), .d (.bool true)]) := pcT_ok hW 40 _ _ _ (ks_and W)
  have hB : PC P (gl W) 25 [.d (.str [97, 110, 100])] (.tuple [.agg (primC sg_and), .d (.bool true)]) := pcT_ok hW 40 _ _ _ (kr_and W)
  have hX := pcT_ok hW 40 _ _ _ (kx_and W)
  have hY := pcT_ok hW 40 _ _ _ (ky_and W)
  by_cases h0 : n = 0
  · subst h0
    have hS := pcX_ok hW (exS_ok hW) 40 _ _ _ (k8_and W)
    have hT := pcX_ok hW (exS_ok hW) 40 _ _ _ (k6_and W)
    exact gen7 hW hA hB hS hT hX hY (c0_and W)
  · have hS := bad18c hW hA h0
    have hT := bad26c hW hB h0
    exact gen7 hW hA hB hS hT hX hY (cb_and W)
theorem kr_drop (W : World) : pcT W 40 25 [.d (.str [100, 114, 111, 112])] = some (.tuple [.agg (primC sg_drop), .d (.bool true)]) := by kernel_rfl
theorem kx_drop (W : World) : pcT W 40 27 [.d (.str [100, 114, 111, 112])] = some (.tuple [(.d (.str [])), (.d (.bool false)), (.d (.bool false))]) := by kernel_rfl
theorem ky_drop (W : World) : pcT W 40 28 [.d (.str [100, 114, 111, 112])] = some (.tuple [(.d (.str [])), (.d (.bool false)), (.d (.bool false))]) := by kernel_rfl
theorem cb_drop (W : World) : chk7 W (primC sg_drop) (primC sg_drop) zS5 zS5 true true 1 1 [] [] false false false false := by unfold chk7; kernel_rfl
theorem k8_drop (W : World) : pcX W ktS exS 40 18 [.d (.str [100, 114, 111, 112]), .d (.int .i64 0)] = some (.tuple [.agg ((primC sg_drop).drop 5), .d (.int .i64 0)]) := by kernel_rfl
theorem k6_drop (W : World) : pcX W ktS exS 40 26 [.d (.str [100, 114, 111, 112]), .d (.int .i64 0)] = some (.tuple [.agg ((primC sg_drop).drop 5), .d (.int .i64 0)]) := by kernel_rfl
theorem c0_drop (W : World) : chk7 W (primC sg_drop) (primC sg_drop) ((primC sg_drop).drop 5) ((primC sg_drop).drop 5) true true 0 0 [] [] false false false false := by unfold chk7; kernel_rfl
theorem l7_drop (hW : W0 W) (n : Int) : PC P (gl W) 7 [.d (.str [100, 114, 111, 112]), .d (.int .i64 n)] (.d (.bool true)) := by
  have hA : PC P (gl W) 17 [.d (.str [100, 114, 111, 112])] (.tuple [.agg (primC sg_drop), .d (.bool true)]) := pcT_ok hW 40 _ _ _ (ks_drop W)
  have hB : PC P (gl W) 25 [.d (.str [100, 114, 111, 112])] (.tuple [.agg (primC sg_drop), .d (.bool true)]) := pcT_ok hW 40 _ _ _ (kr_drop W)
  have hX := pcT_ok hW 40 _ _ _ (kx_drop W)
  have hY := pcT_ok hW 40 _ _ _ (ky_drop W)
  by_cases h0 : n = 0
  · subst h0
    have hS := pcX_ok hW (exS_ok hW) 40 _ _ _ (k8_drop W)
    have hT := pcX_ok hW (exS_ok hW) 40 _ _ _ (k6_drop W)
    exact gen7 hW hA hB hS hT hX hY (c0_drop W)
  · have hS := bad18c hW hA h0
    have hT := bad26c hW hB h0
    exact gen7 hW hA hB hS hT hX hY (cb_drop W)
theorem kr_gt (W : World) : pcT W 40 25 [.d (.str [103, 116])] = some (.tuple [.agg (primC sg_gt), .d (.bool true)]) := by kernel_rfl
theorem kx_gt (W : World) : pcT W 40 27 [.d (.str [103, 116])] = some (.tuple [(.d (.str [62])), (.d (.bool false)), (.d (.bool true))]) := by kernel_rfl
theorem ky_gt (W : World) : pcT W 40 28 [.d (.str [103, 116])] = some (.tuple [(.d (.str [62])), (.d (.bool false)), (.d (.bool true))]) := by kernel_rfl
theorem cb_gt (W : World) : chk7 W (primC sg_gt) (primC sg_gt) zS5 zS5 true true 1 1 [62] [62] false true false true := by unfold chk7; kernel_rfl
theorem k8_gt (W : World) : pcX W ktS exS 40 18 [.d (.str [103, 116]), .d (.int .i64 0)] = some (.tuple [.agg ((primC sg_gt).drop 5), .d (.int .i64 0)]) := by kernel_rfl
theorem k6_gt (W : World) : pcX W ktS exS 40 26 [.d (.str [103, 116]), .d (.int .i64 0)] = some (.tuple [.agg ((primC sg_gt).drop 5), .d (.int .i64 0)]) := by kernel_rfl
theorem c0_gt (W : World) : chk7 W (primC sg_gt) (primC sg_gt) ((primC sg_gt).drop 5) ((primC sg_gt).drop 5) true true 0 0 [62] [62] false true false true := by unfold chk7; kernel_rfl
theorem l7_gt (hW : W0 W) (n : Int) : PC P (gl W) 7 [.d (.str [103, 116]), .d (.int .i64 n)] (.d (.bool true)) := by
  have hA : PC P (gl W) 17 [.d (.str [103, 116])] (.tuple [.agg (primC sg_gt), .d (.bool true)]) := pcT_ok hW 40 _ _ _ (ks_gt W)
  have hB : PC P (gl W) 25 [.d (.str [103, 116])] (.tuple [.agg (primC sg_gt), .d (.bool true)]) := pcT_ok hW 40 _ _ _ (kr_gt W)
  have hX := pcT_ok hW 40 _ _ _ (kx_gt W)
  have hY := pcT_ok hW 40 _ _ _ (ky_gt W)
  by_cases h0 : n = 0
  · subst h0
    have hS := pcX_ok hW (exS_ok hW) 40 _ _ _ (k8_gt W)
    have hT := pcX_ok hW (exS_ok hW) 40 _ _ _ (k6_gt W)
    exact gen7 hW hA hB hS hT hX hY (c0_gt W)
  · have hS := bad18c hW hA h0
    have hT := bad26c hW hB h0
    exact gen7 hW hA hB hS hT hX hY (cb_gt W)
theorem kr_lt (W : World) : pcT W 40 25 [.d (.str [108, 116])] = some (.tuple [.agg (primC sg_lt), .d (.bool true)]) := by kernel_rfl
theorem kx_lt (W : World) : pcT W 40 27 [.d (.str [108, 116])] = some (.tuple [(.d (.str [60])), (.d (.bool false)), (.d (.bool true))]) := by kernel_rfl
theorem ky_lt (W : World) : pcT W 40 28 [.d (.str [108, 116])] = some (.tuple [(.d (.str [60])), (.d (.bool false)), (.d (.bool true))]) := by kernel_rfl
theorem cb_lt (W : World) : chk7 W (primC sg_lt) (primC sg_lt) zS5 zS5 true true 1 1 [60] [60] false true false true := by unfold chk7; kernel_rfl
theorem k8_lt (W : World) : pcX W ktS exS 40 18 [.d (.str [108, 116]), .d (.int .i64 0)] = some (.tuple [.agg ((primC sg_lt).drop 5), .d (.int .i64 0)]) := by kernel_rfl
theorem k6_lt (W : World) : pcX W ktS exS 40 26 [.d (.str [108, 116]), .d (.int .i64 0)] = some (.tuple [.agg ((primC sg_lt).drop 5), .d (.int .i64 0)]) := by kernel_rfl
theorem c0_lt (W : World) : chk7 W (primC sg_lt) (primC sg_lt) ((primC sg_lt).drop 5) ((primC sg_lt).drop 5) true true 0 0 [60] [60] false true false true := by unfold chk7; kernel_rfl
theorem l7_lt (hW : W0 W) (n : Int) : PC P (gl W) 7 [.d (.str [108, 116]), .d (.int .i64 n)] (.d (.bool true)) := by
  have hA : PC P (gl W) 17 [.d (.str [108, 116])] (.tuple [.agg (primC sg_lt), .d (.bool true)]) := pcT_ok hW 40 _ _ _ (ks_lt W)
  have hB : PC P (gl W) 25 [.d (.str [108, 116])] (.tuple [.agg (primC sg_lt), .d (.bool true)]) := pcT_ok hW 40 _ _ _ (kr_lt W)
  have hX := pcT_ok hW 40 _ _ _ (kx_lt W)
  have hY := pcT_ok hW 40 _ _ _ (ky_lt W)
  by_cases h0 : n = 0
  · subst h0
    have hS := pcX_ok hW (exS_ok hW) 40 _ _ _ (k8_lt W)
    have hT := pcX_ok hW (exS_ok hW) 40 _ _ _ (k6_lt W)
    exact gen7 hW hA hB hS hT hX hY (c0_lt W)
  · have hS := bad18c hW hA h0
    have hT := bad26c hW hB h0
    exact gen7 hW hA hB hS hT hX hY (cb_lt W)
theorem kr_mul (W : World) : pcT W 40 25 [.d (.str [109, 117, 108])] = some (.tuple [.agg (primC sg_mul), .d (.bool true)]) := by kernel_rfl
theorem kx_mul (W : World) : pcT W 40 27 [.d (.str [109, 117, 108])] = some (.tuple [(.d (.str [42])), (.d (.bool false)), (.d (.bool true))]) := by kernel_rfl
theorem ky_mul (W : World) : pcT W 40 28 [.d (.str [109, 117, 108])] = some (.tuple [(.d (.str [42])), (.d (.bool false)), (.d (.bool true))]) := by kernel_rfl
theorem cb_mul (W : World) : chk7 W (primC sg_mul) (primC sg_mul) zS5 zS5 true true 1 1 [42] [42] false true false true := by unfold chk7; kernel_rfl
theorem k8_mul (W : World) : pcX W ktS exS 40 18 [.d (.str [109, 117, 108]), .d (.int .i64 0)] = some (.tuple [.agg ((primC sg_mul).drop 5), .d (.int .i64 0)]) := by kernel_rfl
theorem k6_mul (W : World) : pcX W ktS exS 40 26 [.d (.str [109, 117, 108]), .d (.int .i64 0)] = some (.tuple [.agg ((primC sg_mul).drop 5), .d (.int .i64 0)]) := by kernel_rfl
theorem c0_mul (W : World) : chk7 W (primC sg_mul) (primC sg_mul) ((primC sg_mul).drop 5) ((primC sg_mul).drop 5) true true 0 0 [42] [42] false true false true := by unfold chk7; kernel_rfl
theorem l7_mul (hW : W0 W) (n : Int) : PC P (gl W) 7 [.d (.str [109, 117, 108]), .d (.int .i64 n)] (.d (.bool true)) := by
  have hA : PC P (gl W) 17 [.d (.str [109, 117, 108])] (.tuple [.agg (primC sg_mul), .d (.bool true)]) := pcT_ok hW 40 _ _ _ (ks_mul W)
  have hB : PC P (gl W) 25 [.d (.str [109, 117, 108])] (.tuple [.agg (primC sg_mul), .d (.bool true)]) := pcT_ok hW 40 _ _ _ (kr_mul W)
  have hX := pcT_ok hW 40 _ _ _ (kx_mul W)
  have hY := pcT_ok hW 40 _ _ _ (ky_mul W)
  by_cases h0 : n = 0
  · subst h0
    have hS := pcX_ok hW (exS_ok hW) 40 _ _ _ (k8_mul W)
    have hT := pcX_ok hW (exS_ok hW) 40 _ _ _ (k6_mul W)
    exact gen7 hW hA hB hS hT hX hY (c0_mul W)
  · have hS := bad18c hW hA h0
    have hT := bad26c hW hB h0
    exact gen7 hW hA hB hS hT hX hY (cb_mul W)
theorem kr_or (W : World) : pcT W 40 25 [.d (.str [111, 114])] = some (.tuple [.agg (primC sg_or), .d (.bool true)]) := by kernel_rfl
theorem kx_or (W : World) : pcT W 40 27 [.d (.str [111, 114])] = some (.tuple [(.d (.str [124, 124])), (.d (.bool false)), (.d (.bool true))]) := by kernel_rfl
theorem ky_or (W : World) : pcT W 40 28 [.d (.str [111, 114])] = some (.tuple [(.d (.str [124, 124])), (.d (.bool false)), (.d (.bool true))]) := by kernel_rfl
theorem cb_or (W : World) : chk7 W (primC sg_or) (primC sg_or) zS5 zS5 true true 1 1 [124, 124] [124, 124] false true false true := by unfold chk7; kernel_rfl
theorem k8_or (W : World) : pcX W ktS exS 40 18 [.d (.str [111, 114]), .d (.int .i64 0)] = some (.tuple [.agg ((primC sg_or).drop 5), .d (.int .i64 0)]) := by kernel_rfl
theorem k6_or (W : World) : pcX W ktS exS 40 26 [.d (.str [111, 114]), .d (.int .i64 0)] = some (.tuple [.agg ((primC sg_or).drop 5), .d (.int .i64 0)]) := by kernel_rfl
theorem c0_or (W : World) : chk7 W (primC sg_or) (primC sg_or) ((primC sg_or).drop 5) ((primC sg_or).drop 5) true true 0 0 [124, 124] [124, 124] false true false true := by unfold chk7; kernel_rfl
theorem l7_or (hW : W0 W) (n : Int) : PC P (gl W) 7 [.d (.str [111, 114]), .d (.int .i64 n)] (.d (.bool true)) := by
  have hA : PC P (gl W) 17 [.d (.str [111, 114])] (.tuple [.agg (primC sg_or), .d (.bool true)]) := pcT_ok hW 40 _ _ _ (ks_or W)
  have hB : PC P (gl W) 25 [.d (.str [111, 114])] (.tuple [.agg (primC sg_or), .d (.bool true)]) := pcT_ok hW 40 _ _ _ (kr_or W)
  have hX := pcT_ok hW 40 _ _ _ (kx_or W)
  have hY := pcT_ok hW 40 _ _ _ (ky_or W)
  by_cases h0 : n = 0
  · subst h0
    have hS := pcX_ok hW (exS_ok hW) 40 _ _ _ (k8_or W)
    have hT := pcX_ok hW (exS_ok hW) 40 _ _ _ (k6_or W)
    exact gen7 hW hA hB hS hT hX hY (c0_or W)
  · have hS := bad18c hW hA h0
    have hT := bad26c hW hB h0
    exact gen7 hW hA hB hS hT hX hY (cb_or W)
theorem kr_sub (W : World) : pcT W 40 25 [.d (.str [115, 117, 98])] = some (.tuple [.agg (primC sg_sub), .d (.bool true)]) := by kernel_rfl
theorem kx_sub (W : World) : pcT W 40 27 [.d (.str [115, 117, 98])] = some (.tuple [(.d (.str [45])), (.d (.bool false)), (.d (.bool true))]) := by kernel_rfl
theorem ky_sub (W : World) : pcT W 40 28 [.d (.str [115, 117, 98])] = some (.tuple [(.d (.str [45])), (.d (.bool false)), (.d (.bool true))]) := by kernel_rfl
theorem cb_sub (W : World) : chk7 W (primC sg_sub) (primC sg_sub) zS5 zS5 true true 1 1 [45] [45] false true false true := by unfold chk7; kernel_rfl
theorem k8_sub (W : World) : pcX W ktS exS 40 18 [.d (.str [115, 117, 98]), .d (.int .i64 0)] = some (.tuple [.agg ((primC sg_sub).drop 5), .d (.int .i64 0)]) := by kernel_rfl
theorem k6_sub (W : World) : pcX W ktS exS 40 26 [.d (.str [115, 117, 98]), .d (.int .i64 0)] = some (.tuple [.agg ((primC sg_sub).drop 5), .d (.int .i64 0)]) := by kernel_rfl
theorem c0_sub (W : World) : chk7 W (primC sg_sub) (primC sg_sub) ((primC sg_sub).drop 5) ((primC sg_sub).drop 5) true true 0 0 [45] [45] false true false true := by unfold chk7; kernel_rfl
theorem l7_sub (hW : W0 W) (n : Int) : PC P (gl W) 7 [.d (.str [115, 117, 98]), .d (.int .i64 n)] (.d (.bool true)) := by
  have hA : PC P (gl W) 17 [.d (.str [115, 117, 98])] (.tuple [.agg (primC sg_sub), .d (.bool true)]) := pcT_ok hW 40 _ _ _ (ks_sub W)
  have hB : PC P (gl W) 25 [.d (.str [115, 117, 98])] (.tuple [.agg (primC sg_sub), .d (.bool true)]) := pcT_ok hW 40 _ _ _ (kr_sub W)
  have hX := pcT_ok hW 40 _ _ _ (kx_sub W)
  have hY := pcT_ok hW 40 _ _ _ (ky_sub W)
  by_cases h0 : n = 0
  · subst h0
    have hS := pcX_ok hW (exS_ok hW) 40 _ _ _ (k8_sub W)
    have hT := pcX_ok hW (exS_ok hW) 40 _ _ _ (k6_sub W)
    exact gen7 hW hA hB hS hT hX hY (c0_sub W)
  · have hS := bad18c hW hA h0
    have hT := bad26c hW hB h0
    exact gen7 hW hA hB hS hT hX hY (cb_sub W)
theorem kr_update (W : World) : pcT W 40 25 [.d (.str [117, 112, 100, 97, 116, 101])] = some (.tuple [.agg (primC sg_update), .d (.bool true)]) := by kernel_rfl
theorem kx_update (W : World) : pcT W 40 27 [.d (.str [117, 112, 100, 97, 116, 101])] = some (.tuple [(.d (.str [])), (.d (.bool false)), (.d (.bool false))]) := by kernel_rfl
theorem ky_update (W : World) : pcT W 40 28 [.d (.str [117, 112, 100, 97, 116, 101])] = some (.tuple [(.d (.str [])), (.d (.bool false)), (.d (.bool false))]) := by kernel_rfl
theorem cb_update (W : World) : chk7 W (primC sg_update) (primC sg_update) zS5 zS5 true true 1 1 [] [] false false false false := by unfold chk7; kernel_rfl
theorem k8_update (W : World) : pcX W ktS exS 40 18 [.d (.str [117, 112, 100, 97, 116, 101]), .d (.int .i64 0)] = some (.tuple [.agg ((primC sg_update).drop 5), .d (.int .i64 0)]) := by kernel_rfl
theorem k6_update (W : World) : pcX W ktS exS 40 26 [.d (.str [117, 112, 100, 97, 116, 101]), .d (.int .i64 0)] = some (.tuple [.agg ((primC sg_update).drop 5), .d (.int .i64 0)]) := by kernel_rfl
theorem c0_update (W : World) : chk7 W (primC sg_update) (primC sg_update) ((primC sg_update).drop 5) ((primC sg_update).drop 5) true true 0 0 [] [] false false false false := by unfold chk7; kernel_rfl
theorem l7_update (hW : W0 W) (n : Int) : PC P (gl W) 7 [.d (.str [117, 112, 100, 97, 116, 101]), .d (.int .i64 n)] (.d (.bool true)) := by
  have hA : PC P (gl W) 17 [.d (.str [117, 112, 100, 97, 116, 101])] (.tuple [.agg (primC sg_update), .d (.bool true)]) := pcT_ok hW 40 _ _ _ (ks_update W)
  have hB : PC P (gl W) 25 [.d (.str [117, 112, 100, 97, 116, 101])] (.tuple [.agg (primC sg_update), .d (.bool true)]) := pcT_ok hW 40 _ _ _ (kr_update W)
  have hX := pcT_ok hW 40 _ _ _ (kx_update W)
  have hY := pcT_ok hW 40 _ _ _ (ky_update W)
  by_cases h0 : n = 0
  · subst h0
    have hS := pcX_ok hW (exS_ok hW) 40 _ _ _ (k8_update W)
    have hT := pcX_ok hW (exS_ok hW) 40 _ _ _ (k6_update W)
    exact gen7 hW hA hB hS hT hX hY (c0_update W)
  · have hS := bad18c hW hA h0
    have hT := bad26c hW hB h0
    exact gen7 hW hA hB hS hT hX hY (cb_update W)
end Fw.Tz
