/-
  PrimsTable: what its callees answer at abs, diagonal, fill, iota, min, neg, select, toint, xor, and the law there.
-/
import Derived.Test.YtlgnmcfckgokdaaGreatDoorSf
import Derived.Test.YtlgnmcfckgokdaaGreatDoorSg

set_option linter.unusedVariables false
set_option maxRecDepth 1000000
set_option maxHeartbeats 1000000
namespace Fw.Tz
open Go Go.Proofs Fw.X
variable {W : World}
theorem kr_abs (W : World) : pcT W 40 25 [.d (.str [97, 98, 115])] = some (.tuple [.agg (primC sg_abs), .d (.bool true)]) := by kernel_rfl
theorem kx_abs (W : World) : pcT W 40 27 [.d (.str [97, 98, 115])] = some (.tuple [(.d (.str [])), (.d (.bool false)), (.d (.bool false))]) := by kernel_rfl
theorem ky_abs (W : World) : pcT W 40 28 [.d (.str [97, 98, 115])] = some (.tuple [(.d (.str [])), (.d (.bool false)), (.d (.bool false))]) := by kernel_rfl
theorem cb_abs (W : World) : chk7 W (primC sg_abs) (primC sg_abs) zS5 zS5 true true 1 1 [] [] false false false false := by unfold chk7; kernel_rfl
theorem k8_abs (W : World) : pcX W ktS exS 40 18 [.d (.str [97, 98, 115]), .d (.int .i64 0)] = some (.tuple [.agg ((primC sg_abs).drop 5), .d (.int .i64 0)]) := by kernel_rfl
theorem k6_abs (W : World) : pcX W ktS exS 40 26 [.d (.str [97, 98, 115]), .d (.int .i64 0)] = some (.tuple [.agg ((primC sg_abs).drop 5), .d (.int .i64 0)]) := by kernel_rfl
theorem c0_abs (W : World) : chk7 W (primC sg_abs) (primC sg_abs) ((primC sg_abs).drop 5) ((primC sg_abs).drop 5) true true 0 0 [] [] false false false false := by unfold chk7; kernel_rfl
theorem l7_abs (hW : W0 W) (n : Int) : PC P (gl W) 7 [.d (.str [97, 98, 115]), .d (.int .i64 n)] (.d (.bool true)) := by
  have hA : PC P (gl W) 17 [.d (.str [97, 98, 115])] (.tuple [.agg (primC sg_abs), .d (.bool true)]) := pcT_ok hW 40 _ _ _ (ks_abs W)
  have hB : PC P (gl W) 25 [.d (.str [97, 98, 115])] (.tuple [.agg (primC sg_abs), .d (.bool true)]) := pcT_ok hW 40 _ _ _ (kr_abs W)
  have hX := pcT_ok hW 40 _ _ _ (kx_abs W)
  have hY := pcT_ok hW 40 _ _ _ (ky_abs W)
  by_cases h0 : n = 0
  · subst h0
    have hS := pcX_ok hW (exS_ok hW) 40 _ _ _ (k8_abs W)
    have hT := pcX_ok hW (exS_ok hW) 40 _ _ _ (k6_abs W)
    exact gen7 hW hA hB hS hT hX hY (c0_abs W)
  · have hS := bad18c hW hA h0
    have hT := bad26c hW hB h0
    exact gen7 hW hA hB hS hT hX hY (cb_abs W)
theorem kr_diagonal (W : World) : pcT W 40 25 [.d (.str [100, 105, 97, 103, 111, 110, 97, 108])] = some (.tuple [.agg (primC sg_diagonal), .d (.bool true)]) := by kernel_rfl
theorem kx_diagonal (W : World) : pcT W 40 27 [.d (.str [100, 105, 97, 103, 111, 110, 97, 108])] = some (.tuple [(.d (.str [])), (.d (.bool false)), (.d (.bool false))]) := by kernel_rfl
theorem ky_diagonal (W : World) : pcT W 40 28 [.d (.str [100, 105, 97, 103, 111, 110, 97, 108])] = some (.tuple [(.d (.str [])), (.d (.bool false)), (.d (.bool false))]) := by kernel_rfl
theorem cb_diagonal (W : World) : chk7 W (primC sg_diagonal) (primC sg_diagonal) zS5 zS5 true true 1 1 [] [] false false false false := by unfold chk7; kernel_rfl
theorem k8_diagonal (W : World) : pcX W ktS exS 40 18 [.d (.str [100, 105, 97, 103, 111, 110, 97, 108]), .d (.int .i64 0)] = some (.tuple [.agg ((primC sg_diagonal).drop 5), .d (.int .i64 0)]) := by kernel_rfl
theorem k6_diagonal (W : World) : pcX W ktS exS 40 26 [.d (.str [100, 105, 97, 103, 111, 110, 97, 108]), .d (.int .i64 0)] = some (.tuple [.agg ((primC sg_diagonal).drop 5), .d (.int .i64 0)]) := by kernel_rfl
theorem c0_diagonal (W : World) : chk7 W (primC sg_diagonal) (primC sg_diagonal) ((primC sg_diagonal).drop 5) ((primC sg_diagonal).drop 5) true true 0 0 [] [] false false false false := by unfold chk7; kernel_rfl
theorem l7_diagonal (hW : W0 W) (n : Int) : PC P (gl W) 7 [.d (.str [100, 105, 97, 103, 111, 110, 97, 108]), .d (.int .i64 n)] (.d (.bool true)) := by
  have hA : PC P (gl W) 17 [.d (.str [100, 105, 97, 103, 111, 110, 97, 108])] (.tuple [.agg (primC sg_diagonal), .d (.bool true)]) := pcT_ok hW 40 _ _ _ (ks_diagonal W)
  have hB : PC P (gl W) 25 [.d (.str [100, 105, 97, 103, 111, 110, 97, 108])] (.tuple [.agg (primC sg_diagonal), .d (.bool true)]) := pcT_ok hW 40 _ _ _ (kr_diagonal W)
  have hX := pcT_ok hW 40 _ _ _ (kx_diagonal W)
  have hY := pcT_ok hW 40 _ _ _ (ky_diagonal W)
  by_cases h0 : n = 0
  · subst h0
    have hS := pcX_ok hW (exS_ok hW) 40 _ _ _ (k8_diagonal W)
    have hT := pcX_ok hW (exS_ok hW) 40 _ _ _ (k6_diagonal W)
    exact gen7 hW hA hB hS hT hX hY (c0_diagonal W)
  · have hS := bad18c hW hA h0
    have hT := bad26c hW hB h0
    exact gen7 hW hA hB hS hT hX hY (cb_diagonal W)
theorem kr_fill (W : World) : pcT W 40 25 [.d (.str [102, 105, 108, 108])] = some (.tuple [.agg (primC sg_fill), .d (.bool true)]) := by kernel_rfl
theorem kx_fill (W : World) : pcT W 40 27 [.d (.str [102, 105, 108, 108])] = some (.tuple [(.d (.str [])), (.d (.bool false)), (.d (.bool false))]) := by kernel_rfl
theorem ky_fill (W : World) : pcT W 40 28 [.d (.str [102, 105, 108, 108])] = some (.tuple [(.d (.str [])), (.d (.bool false)), (.d (.bool false))]) := by kernel_rfl
theorem cb_fill (W : World) : chk7 W (primC sg_fill) (primC sg_fill) zS5 zS5 true true 1 1 [] [] false false false false := by unfold chk7; kernel_rfl
theorem k8_fill (W : World) : pcX W ktS exS 40 18 [.d (.str [102, 105, 108, 108]), .d (.int .i64 0)] = some (.tuple [.agg ((primC sg_fill).drop 5), .d (.int .i64 0)]) := by kernel_rfl
theorem k6_fill (W : World) : pcX W ktS exS 40 26 [.d (.str [102, 105, 108, 108]), .d (.int .i64 0)] = some (.tuple [.agg ((primC sg_fill).drop 5), .d (.int .i64 0)]) := by kernel_rfl
theorem c0_fill (W : World) : chk7 W (primC sg_fill) (primC sg_fill) ((primC sg_fill).drop 5) ((primC sg_fill).drop 5) true true 0 0 [] [] false false false false := by unfold chk7; kernel_rfl
theorem l7_fill (hW : W0 W) (n : Int) : PC P (gl W) 7 [.d (.str [102, 105, 108, 108]), .d (.int .i64 n)] (.d (.bool true)) := by
  have hA : PC P (gl W) 17 [.d (.str [102, 105, 108, 108])] (.tuple [.agg (primC sg_fill), .d (.bool true)]) := pcT_ok hW 40 _ _ _ (ks_fill W)
  have hB : PC P (gl W) 25 [.d (.str [102, 105, 108, 108])] (.tuple [.agg (primC sg_fill), .d (.bool true)]) := pcT_ok hW 40 _ _ _ (kr_fill W)
  have hX := pcT_ok hW 40 _ _ _ (kx_fill W)
  have hY := pcT_ok hW 40 _ _ _ (ky_fill W)
  by_cases h0 : n = 0
  · subst h0
    have hS := pcX_ok hW (exS_ok hW) 40 _ _ _ (k8_fill W)
    have hT := pcX_ok hW (exS_ok hW) 40 _ _ _ (k6_fill W)
    exact gen7 hW hA hB hS hT hX hY (c0_fill W)
  · have hS := bad18c hW hA h0
    have hT := bad26c hW hB h0
    exact gen7 hW hA hB hS hT hX hY (cb_fill W)
theorem kr_iota (W : World) : pcT W 40 25 [.d (.str [105, 111, 116, 97])] = some (.tuple [.agg (primC sg_iota), .d (.bool true)]) := by kernel_rfl
theorem kx_iota (W : World) : pcT W 40 27 [.d (.str [105, 111, 116, 97])] = some (.tuple [(.d (.str [])), (.d (.bool false)), (.d (.bool false))]) := by kernel_rfl
theorem ky_iota (W : World) : pcT W 40 28 [.d (.str [105, 111, 116, 97])] = some (.tuple [(.d (.str [])), (.d (.bool false)), (.d (.bool false))]) := by kernel_rfl
theorem cb_iota (W : World) : chk7 W (primC sg_iota) (primC sg_iota) zS5 zS5 true true 1 1 [] [] false false false false := by unfold chk7; kernel_rfl
theorem k8_iota (W : World) : pcX W ktS exS 40 18 [.d (.str [105, 111, 116, 97]), .d (.int .i64 0)] = some (.tuple [.agg ((primC sg_iota).drop 5), .d (.int .i64 0)]) := by kernel_rfl
theorem k6_iota (W : World) : pcX W ktS exS 40 26 [.d (.str [105, 111, 116, 97]), .d (.int .i64 0)] = some (.tuple [.agg ((primC sg_iota).drop 5), .d (.int .i64 0)]) := by kernel_rfl
theorem c0_iota (W : World) : chk7 W (primC sg_iota) (primC sg_iota) ((primC sg_iota).drop 5) ((primC sg_iota).drop 5) true true 0 0 [] [] false false false false := by unfold chk7; kernel_rfl
theorem l7_iota (hW : W0 W) (n : Int) : PC P (gl W) 7 [.d (.str [105, 111, 116, 97]), .d (.int .i64 n)] (.d (.bool true)) := by
  have hA : PC P (gl W) 17 [.d (.str [105, 111, 116, 97])] (.tuple [.agg (primC sg_iota), .d (.bool true)]) := pcT_ok hW 40 _ _ _ (ks_iota W)
  have hB : PC P (gl W) 25 [.d (.str [105, 111, 116, 97])] (.tuple [.agg (primC sg_iota), .d (.bool true)]) := pcT_ok hW 40 _ _ _ (kr_iota W)
  have hX := pcT_ok hW 40 _ _ _ (kx_iota W)
  have hY := pcT_ok hW 40 _ _ _ (ky_iota W)
  by_cases h0 : n = 0
  · subst h0
    have hS := pcX_ok hW (exS_ok hW) 40 _ _ _ (k8_iota W)
    have hT := pcX_ok hW (exS_ok hW) 40 _ _ _ (k6_iota W)
    exact gen7 hW hA hB hS hT hX hY (c0_iota W)
  · have hS := bad18c hW hA h0
    have hT := bad26c hW hB h0
    exact gen7 hW hA hB hS hT hX hY (cb_iota W)
theorem kr_min (W : World) : pcT W 40 25 [.d (.str [109, 105, 110])] = some (.tuple [.agg (primC sg_min), .d (.bool true)]) := by kernel_rfl
theorem kx_min (W : World) : pcT W 40 27 [.d (.str [109, 105, 110])] = some (.tuple [(.d (.str [])), (.d (.bool false)), (.d (.bool false))]) := by kernel_rfl
theorem ky_min (W : World) : pcT W 40 28 [.d (.str [109, 105, 110])] = some (.tuple [(.d (.str [])), (.d (.bool false)), (.d (.bool false))]) := by kernel_rfl
theorem cb_min (W : World) : chk7 W (primC sg_min) (primC sg_min) zS5 zS5 true true 1 1 [] [] false false false false := by unfold chk7; kernel_rfl
theorem k8_min (W : World) : pcX W ktS exS 40 18 [.d (.str [109, 105, 110]), .d (.int .i64 0)] = some (.tuple [.agg ((primC sg_min).drop 5), .d (.int .i64 0)]) := by kernel_rfl
theorem k6_min (W : World) : pcX W ktS exS 40 26 [.d (.str [109, 105, 110]), .d (.int .i64 0)] = some (.tuple [.agg ((primC sg_min).drop 5), .d (.int .i64 0)]) := by kernel_rfl
theorem c0_min (W : World) : chk7 W (primC sg_min) (primC sg_min) ((primC sg_min).drop 5) ((primC sg_min).drop 5) true true 0 0 [] [] false false false false := by unfold chk7; kernel_rfl
theorem l7_min (hW : W0 W) (n : Int) : PC P (gl W) 7 [.d (.str [109, 105, 110]), .d (.int .i64 n)] (.d (.bool true)) := by
  have hA : PC P (gl W) 17 [.d (.str [109, 105, 110])] (.tuple [.agg (primC sg_min), .d (.bool true)]) := pcT_ok hW 40 _ _ _ (ks_min W)
  have hB : PC P (gl W) 25 [.d (.str [109, 105, 110])] (.tuple [.agg (primC sg_min), .d (.bool true)]) := pcT_ok hW 40 _ _ _ (kr_min W)
  have hX := pcT_ok hW 40 _ _ _ (kx_min W)
  have hY := pcT_ok hW 40 _ _ _ (ky_min W)
  by_cases h0 : n = 0
  · subst h0
    have hS := pcX_ok hW (exS_ok hW) 40 _ _ _ (k8_min W)
    have hT := pcX_ok hW (exS_ok hW) 40 _ _ _ (k6_min W)
    exact gen7 hW hA hB hS hT hX hY (c0_min W)
  · have hS := bad18c hW hA h0
    have hT := bad26c hW hB h0
    exact gen7 hW hA hB hS hT hX hY (cb_min W)
theorem kr_neg (W : World) : pcT W 40 25 [.d (.str [110, 101, 103])] = some (.tuple [.agg (primC sg_neg), .d (.bool true)]) := by kernel_rfl
theorem kx_neg (W : World) : pcT W 40 27 [.d (.str [110, 101, 103])] = some (.tuple [(.d (.str [45])), (.d (.bool true)), (.d (.bool true))]) := by kernel_rfl
theorem ky_neg (W : World) : pcT W 40 28 [.d (.str [110, 101, 103])] = some (.tuple [(.d (.str [45])), (.d (.bool true)), (.d (.bool true))]) := by kernel_rfl
theorem cb_neg (W : World) : chk7 W (primC sg_neg) (primC sg_neg) zS5 zS5 true true 1 1 [45] [45] true true true true := by unfold chk7; kernel_rfl
theorem k8_neg (W : World) : pcX W ktS exS 40 18 [.d (.str [110, 101, 103]), .d (.int .i64 0)] = some (.tuple [.agg ((primC sg_neg).drop 5), .d (.int .i64 0)]) := by kernel_rfl
theorem k6_neg (W : World) : pcX W ktS exS 40 26 [.d (.str [110, 101, 103]), .d (.int .i64 0)] = some (.tuple [.agg ((primC sg_neg).drop 5), .d (.int .i64 0)]) := by kernel_rfl
theorem c0_neg (W : World) : chk7 W (primC sg_neg) (primC sg_neg) ((primC sg_neg).drop 5) ((primC sg_neg).drop 5) true true 0 0 [45] [45] true true true true := by unfold chk7; kernel_rfl
theorem l7_neg (hW : W0 W) (n : Int) : PC P (gl W) 7 [.d (.str [110, 101, 103]), .d (.int .i64 n)] (.d (.bool true)) := by
  have hA : PC P (gl W) 17 [.d (.str [110, 101, 103])] (.tuple [.agg (primC sg_neg), .d (.bool true)]) := pcT_ok hW 40 _ _ _ (ks_neg W)
  have hB : PC P (gl W) 25 [.d (.str [110, 101, 103])] (.tuple [.agg (primC sg_neg), .d (.bool true)]) := pcT_ok hW 40 _ _ _ (kr_neg W)
  have hX := pcT_ok hW 40 _ _ _ (kx_neg W)
  have hY := pcT_ok hW 40 _ _ _ (ky_neg W)
  by_cases h0 : n = 0
  · subst h0
    have hS := pcX_ok hW (exS_ok hW) 40 _ _ _ (k8_neg W)
    have hT := pcX_ok hW (exS_ok hW) 40 _ _ _ (k6_neg W)
    exact gen7 hW hA hB hS hT hX hY (c0_neg W)
  · have hS := bad18c hW hA h0
    have hT := bad26c hW hB h0
    exact gen7 hW hA hB hS hT hX hY (cb_neg W)
theorem kr_select (W : World) : pcT W 40 25 [.d (.str [115, 101, 108, 101, 99, 116])] = some (.tuple [.agg (primC sg_select), .d (.bool true)]) := by kernel_rfl
theorem kx_select (W : World) : pcT W 40 27 [.d (.str [115, 101, 108, 101, 99, 116])] = some (.tuple [(.d (.str [])), (.d (.bool false)), (.d (.bool false))]) := by kernel_rfl
theorem ky_select (W : World) : pcT W 40 28 [.d (.str [115, 101, 108, 101, 99, 116])] = some (.tuple [(.d (.str [])), (.d (.bool false)), (.d (.bool false))]) := by kernel_rfl
theorem cb_select (W : World) : chk7 W (primC sg_select) (primC sg_select) zS5 zS5 true true 1 1 [] [] false false false false := by unfold chk7; kernel_rfl
theorem k8_select (W : World) : pcX W ktS exS 40 18 [.d (.str [115, 101, 108, 101, 99, 116]), .d (.int .i64 0)] = some (.tuple [.agg ((primC sg_select).drop 5), .d (.int .i64 0)]) := by kernel_rfl
theorem k6_select (W : World) : pcX W ktS exS 40 26 [.d (.str [115, 101, 108, 101, 99, 116]), .d (.int .i64 0)] = some (.tuple [.agg ((primC sg_select).drop 5), .d (.int .i64 0)]) := by kernel_rfl
theorem c0_select (W : World) : chk7 W (primC sg_select) (primC sg_select) ((primC sg_select).drop 5) ((primC sg_select).drop 5) true true 0 0 [] [] false false false false := by unfold chk7; kernel_rfl
theorem l7_select (hW : W0 W) (n : Int) : PC P (gl W) 7 [.d (.str [115, 101, 108, 101, 99, 116]), .d (.int .i64 n)] (.d (.bool true)) := by
  have hA : PC P (gl W) 17 [.d (.str [115, 101, 108, 101, 99, 116])] (.tuple [.agg (primC sg_select), .d (.bool true)]) := pcT_ok hW 40 _ _ _ (ks_select W)
  have hB : PC P (gl W) 25 [.d (.str [115, 101, 108, 101, 99, 116])] (.tuple [.agg (primC sg_select), .d (.bool true)]) := pcT_ok hW 40 _ _ _ (kr_select W)
  have hX := pcT_ok hW 40 _ _ _ (kx_select W)
  have hY := pcT_ok hW 40 _ _ _ (ky_select W)
  by_cases h0 : n = 0
  · subst h0
    have hS := pcX_ok hW (exS_ok hW) 40 _ _ _ (k8_select W)
    have hT := pcX_ok hW (exS_ok hW) 40 _ _ _ (k6_select W)
    exact gen7 hW hA hB hS hT hX hY (c0_select W)
  · have hS := bad18c hW hA h0
    have hT := bad26c hW hB h0
    exact gen7 hW hA hB hS hT hX hY (cb_select W)
theorem kr_toint (W : World) : pcT W 40 25 [.d (.str [116, 111, 105, 110, 116])] = some (.tuple [.agg (primC sg_toint), .d (.bool true)]) := by kernel_rfl
theorem kx_toint (W : World) : pcT W 40 27 [.d (.str [116, 111, 105, 110, 116])] = some (.tuple [(.d (.str [])), (.d (.bool false)), (.d (.bool false))]) := by kernel_rfl
theorem ky_toint (W : World) : pcT W 40 28 [.d (.str [116, 111, 105, 110, 116])] = some (.tuple [(.d (.str [])), (.d (.bool false)), (.d (.bool false))]) := by kernel_rfl
theorem cb_toint (W : World) : chk7 W (primC sg_toint) (primC sg_toint) zS5 zS5 true true 1 1 [] [] false false false false := by unfold chk7; kernel_rfl
theorem k8_toint (W : World) : pcX W ktS exS 40 18 [.d (.str [116, 111, 105, 110, 116]), .d (.int .i64 0)] = some (.tuple [.agg ((primC sg_toint).drop 5), .d (.int .i64 0)]) := by kernel_rfl
theorem k6_toint (W : World) : pcX W ktS exS 40 26 [.d (.str [116, 111, 105, 110, 116]), .d (.int .i64 0)] = some (.tuple [.agg ((primC sg_toint).drop 5), .d (.int .i64 0)]) := by kernel_rfl
theorem c0_toint (W : World) : chk7 W (primC sg_toint) (primC sg_toint) ((primC sg_toint).drop 5) ((primC sg_toint).drop 5) true true 0 0 [] [] false false false false := by unfold chk7; kernel_rfl
theorem l7_toint (hW : W0 W) (n : Int) : PC P (gl W) 7 [.d (.str [116, 111, 105, 110, 116]), .d (.int .i64 n)] (.d (.bool true)) := by
  have hA : PC P (gl W) 17 [.d (.str [116, 111, 105, 110, 116])] (.tuple [.agg (primC sg_toint), .d (.bool true)]) := pcT_ok hW 40 _ _ _ (ks_toint W)
  have hB : PC P (gl W) 25 [.d (.str [116, 111, 105, 110, 116])] (.tuple [.agg (primC sg_toint), .d (.bool true)]) := pcT_ok hW 40 _ _ _ (kr_toint W)
  have hX := pcT_ok hW 40 _ _ _ (kx_toint W)
  have hY := pcT_ok hW 40 _ _ _ (ky_toint W)
  by_cases h0 : n = 0
  · subst h0
    have hS := pcX_ok hW (exS_ok hW) 40 _ _ _ (k8_toint W)
    have hT := pcX_ok hW (exS_ok hW) 40 _ _ _ (k6_toint W)
    exact gen7 hW hA hB hS hT hX hY (c0_toint W)
  · have hS := bad18c hW hA h0
    have hT := bad26c hW hB h0
    exact gen7 hW hA hB hS hT hX hY (cb_toint W)
theorem kr_xor (W : World) : pcT W 40 25 [.d (.str [120, 111, 114])] = some (.tuple [.agg (primC sg_xor), .d (.bool true)]) := by kernel_rfl
theorem kx_xor (W : World) : pcT W 40 27 [.d (.str [120, 111, 114])] = some (.tuple [(.d (.str [])), (.d (.bool false)), (.d (.bool false))]) := by kernel_rfl
theorem ky_xor (W : World) : pcT W 40 28 [.d (.str [120, 111, 114])] = some (.tuple [(.d (.str [])), (.d (.bool false)), (.d (.bool false))]) := by kernel_rfl
theorem cb_xor (W : World) : chk7 W (primC sg_xor) (primC sg_xor) zS5 zS5 true true 1 1 [] [] false false false false := by unfold chk7; kernel_rfl
theorem k8_xor (W : World) : pcX W ktS exS 40 18 [.d (.str [120, 111, 114]), .d (.int .i64 0)] = some (.tuple [.agg ((primC sg_xor).drop 5), .d (.int .i64 0)]) := by kernel_rfl
theorem k6_xor (W : World) : pcX W ktS exS 40 26 [.d (.str [120, 111, 114]), .d (.int .i64 0)] = some (.tuple [.agg ((primC sg_xor).drop 5), .d (.int .i64 0)]) := by kernel_rfl
theorem c0_xor (W : World) : chk7 W (primC sg_xor) (primC sg_xor) ((primC sg_xor).drop 5) ((primC sg_xor).drop 5) true true 0 0 [] [] false false false false := by unfold chk7; kernel_rfl
theorem l7_xor (hW : W0 W) (n : Int) : PC P (gl W) 7 [.d (.str [120, 111, 114]), .d (.int .i64 n)] (.d (.bool true)) := by
  have hA : PC P (gl W) 17 [.d (.str [120, 111, 114])] (.tuple [.agg (primC sg_xor), .d (.bool true)]) := pcT_ok hW 40 _ _ _ (ks_xor W)
  have hB : PC P (gl W) 25 [.d (.str [120, 111, 114])] (.tuple [.agg (primC sg_xor), .d (.bool true)]) := pcT_ok hW 40 _ _ _ (kr_xor W)
  have hX := pcT_ok hW 40 _ _ _ (kx_xor W)
  have hY := pcT_ok hW 40 _ _ _ (ky_xor W)
  by_cases h0 : n = 0
  · subst h0
    have hS := pcX_ok hW (exS_ok hW) 40 _ _ _ (k8_xor W)
    have hT := pcX_ok hW (exS_ok hW) 40 _ _ _ (k6_xor W)
    exact gen7 hW hA hB hS hT hX hY (c0_xor W)
  · have hS := bad18c hW hA h0
    have hT := bad26c hW hB h0
    exact gen7 hW hA hB hS hT hX hY (cb_xor W)
end Fw.Tz
