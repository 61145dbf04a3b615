/-
  PrimsTable: what its callees answer at append, eq, index, max, ne, reverse, take, windows, and the law there.
-/
import Derived.Test.YtlgnmcfckgokdaaGreatDoorSf
import Derived.Test.YtlgnmcfckgokdaaGreatDoorSg

set_option linter.unusedVariables false
set_option maxRecDepth 1000000
set_option maxHeartbeats 1000000
namespace Fw.Tz
open Go Go.Proofs Fw.X
variable {W : World}
theorem kr_append (W : World) : pcT W 40 25 [.d (.str [97, 112, 112, 101, 110, 100])] = some (.tuple [.agg (primC sg_append), .d (.bool true)]) := by kernel_rfl
theorem kx_append (W : World) : pcT W 40 27 [.d (.str [97, 112, 112, 101, 110, 100])] = some (.tuple [(.d (.str [])), (.d (.bool false)), (.d (.bool false))]) := by kernel_rfl
theorem ky_append (W : World) : pcT W 40 28 [.d (.str [97, 112, 112, 101, 110, 100])] = some (.tuple [(.d (.str [])), (.d (.bool false)), (.d (.bool false))]) := by kernel_rfl
theorem cb_append (W : World) : chk7 W (primC sg_append) (primC sg_append) zS5 zS5 true true 1 1 [] [] false false false false := by unfold chk7; kernel_rfl
theorem k8_append (W : World) : pcX W ktS exS 40 18 [.d (.str [97, 112, 112, 101, 110, 100]), .d (.int .i64 0)] = some (.tuple [.agg ((primC sg_append).drop 5), .d (.int .i64 0)]) := by kernel_rfl
theorem k6_append (W : World) : pcX W ktS exS 40 26 [.d (.str [97, 112, 112, 101, 110, 100]), .d (.int .i64 0)] = some (.tuple [.agg ((primC sg_append).drop 5), .d (.int .i64 0)]) := by kernel_rfl
theorem c0_append (W : World) : chk7 W (primC sg_append) (primC sg_append) ((primC sg_append).drop 5) ((primC sg_append).drop 5) true true 0 0 [] [] false false false false := by unfold chk7; kernel_rfl
theorem l7_append (hW : W0 W) (n : Int) : PC P (gl W) 7 [.d (.str [97, 112, 112, 101, 110, 100]), .d (.int .i64 n)] (.d (.bool true)) := by
  have hA : PC P (gl W) 17 [.d (.str [97, 112, 112, 101, 110, 100])] (.tuple [.agg (primC sg_append), .d (.bool true)]) := pcT_ok hW 40 _ _ _ (ks_append W)
  have hB : PC P (gl W) 25 [.d (.str [97, 112, 112, 101, 110, 100])] (.tuple [.agg (primC sg_append), .d (.bool true)]) := pcT_ok hW 40 _ _ _ (kr_append W)
  have hX := pcT_ok hW 40 _ _ _ (kx_append W)
  have hY := pcT_ok hW 40 _ _ _ (ky_append W)
  by_cases h0 : n = 0
  · subst h0
    have hS := pcX_ok hW (exS_ok hW) 40 _ _ _ (k8_append W)
    have hT := pcX_ok hW (exS_ok hW) 40 _ _ _ (k6_append W)
    exact gen7 hW hA hB hS hT hX hY (c0_append W)
  · have hS := bad18c hW hA h0
    have hT := bad26c hW hB h0
    exact gen7 hW hA hB hS hT hX hY (cb_append W)
theorem kr_eq (W : World) : pcT W 40 25 [.d (.str [101, 113])] = some (.tuple [.agg (primC sg_eq), .d (.bool true)]) := by kernel_rfl
theorem kx_eq (W : World) : pcT W 40 27 [.d (.str [101, 113])] = some (.tuple [(.d (.str [61, 61])), (.d (.bool false)), (.d (.bool true))]) := by kernel_rfl
theorem ky_eq (W : World) : pcT W 40 28 [.d (.str [101, 113])] = some (.tuple [(.d (.str [61, 61])), (.d (.bool false)), (.d (.bool true))]) := by kernel_rfl
theorem cb_eq (W : World) : chk7 W (primC sg_eq) (primC sg_eq) zS5 zS5 true true 1 1 [61, 61] [61, 61] false true false true := by unfold chk7; kernel_rfl
theorem k8_eq (W : World) : pcX W ktS exS 40 18 [.d (.str [101, 113]), .d (.int .i64 0)] = some (.tuple [.agg ((primC sg_eq).drop 5), .d (.int .i64 0)]) := by kernel_rfl
theorem k6_eq (W : World) : pcX W ktS exS 40 26 [.d (.str [101, 113]), .d (.int .i64 0)] = some (.tuple [.agg ((primC sg_eq).drop 5), .d (.int .i64 0)]) := by kernel_rfl
theorem c0_eq (W : World) : chk7 W (primC sg_eq) (primC sg_eq) ((primC sg_eq).drop 5) ((primC sg_eq).drop 5) true true 0 0 [61, 61] [61, 61] false true false true := by unfold chk7; kernel_rfl
theorem l7_eq (hW : W0 W) (n : Int) : PC P (gl W) 7 [.d (.str [101, 113]), .d (.int .i64 n)] (.d (.bool true)) := by
  have hA : PC P (gl W) 17 [.d (.str [101, 113])] (.tuple [.agg (primC sg_eq), .d (.bool true)]) := pcT_ok hW 40 _ _ _ (ks_eq W)
  have hB : PC P (gl W) 25 [.d (.str [101, 113])] (.tuple [.agg (primC sg_eq), .d (.bool true)]) := pcT_ok hW 40 _ _ _ (kr_eq W)
  have hX := pcT_ok hW 40 _ _ _ (kx_eq W)
  have hY := pcT_ok hW 40 _ _ _ (ky_eq W)
  by_cases h0 : n = 0
  · subst h0
    have hS := pcX_ok hW (exS_ok hW) 40 _ _ _ (k8_eq W)
    have hT := pcX_ok hW (exS_ok hW) 40 _ _ _ (k6_eq W)
    exact gen7 hW hA hB hS hT hX hY (c0_eq W)
  · have hS := bad18c hW hA h0
    have hT := bad26c hW hB h0
    exact gen7 hW hA hB hS hT hX hY (cb_eq W)
theorem kr_index (W : World) : pcT W 40 25 [.d (.str [105, 110, 100, 101, 120])] = some (.tuple [.agg (primC sg_index), .d (.bool true)]) := by kernel_rfl
theorem kx_index (W : World) : pcT W 40 27 [.d (.str [105, 110, 100, 101, 120])] = some (.tuple [(.d (.str [])), (.d (.bool false)), (.d (.bool false))]) := by kernel_rfl
theorem ky_index (W : World) : pcT W 40 28 [.d (.str [105, 110, 100, 101, 120])] = some (.tuple [(.d (.str [])), (.d (.bool false)), (.d (.bool false))]) := by kernel_rfl
theorem cb_index (W : World) : chk7 W (primC sg_index) (primC sg_index) zS5 zS5 true true 1 1 [] [] false false false false := by unfold chk7; kernel_rfl
theorem k8_index (W : World) : pcX W ktS exS 40 18 [.d (.str [105, 110, 100, 101, 120]), .d (.int .i64 0)] = some (.tuple [.agg ((primC sg_index).drop 5), .d (.int .i64 0)]) := by kernel_rfl
theorem k6_index (W : World) : pcX W ktS exS 40 26 [.d (.str [105, 110, 100, 101, 120]), .d (.int .i64 0)] = some (.tuple [.agg ((primC sg_index).drop 5), .d (.int .i64 0)]) := by kernel_rfl
theorem c0_index (W : World) : chk7 W (primC sg_index) (primC sg_index) ((primC sg_index).drop 5) ((primC sg_index).drop 5) true true 0 0 [] [] false false false false := by unfold chk7; kernel_rfl
theorem l7_index (hW : W0 W) (n : Int) : PC P (gl W) 7 [.d (.str [105, 110, 100, 101, 120]), .d (.int .i64 n)] (.d (.bool true)) := by
  have hA : PC P (gl W) 17 [.d (.str [105, 110, 100, 101, 120])] (.tuple [.agg (primC sg_index), .d (.bool true)]) := pcT_ok hW 40 _ _ _ (ks_index W)
  have hB : PC P (gl W) 25 [.d (.str [105, 110, 100, 101, 120])] (.tuple [.agg (primC sg_index), .d (.bool true)]) := pcT_ok hW 40 _ _ _ (kr_index W)
  have hX := pcT_ok hW 40 _ _ _ (kx_index W)
  have hY := pcT_ok hW 40 _ _ _ (ky_index W)
  by_cases h0 : n = 0
  · subst h0
    have hS := pcX_ok hW (exS_ok hW) 40 _ _ _ (k8_index W)
    have hT := pcX_ok hW (exS_ok hW) 40 _ _ _ (k6_index W)
    exact gen7 hW hA hB hS hT hX hY (c0_index W)
  · have hS := bad18c hW hA h0
    have hT := bad26c hW hB h0
    exact gen7 hW hA hB hS hT hX hY (cb_index W)
theorem kr_max (W : World) : pcT W 40 25 [.d (.str [109, 97, 120])] = some (.tuple [.agg (primC sg_max), .d (.bool true)]) := by kernel_rfl
theorem kx_max (W : World) : pcT W 40 27 [.d (.str [109, 97, 120])] = some (.tuple [(.d (.str [])), (.d (.bool false)), (.d (.bool false))]) := by kernel_rfl
theorem ky_max (W : World) : pcT W 40 28 [.d (.str [109, 97, 120])] = some (.tuple [(.d (.str [])), (.d (.bool false)), (.d (.bool false))]) := by kernel_rfl
theorem cb_max (W : World) : chk7 W (primC sg_max) (primC sg_max) zS5 zS5 true true 1 1 [] [] false false false false := by unfold chk7; kernel_rfl
theorem k8_max (W : World) : pcX W ktS exS 40 18 [.d (.str [109, 97, 120]), .d (.int .i64 0)] = some (.tuple [.agg ((primC sg_max).drop 5), .d (.int .i64 0)]) := by kernel_rfl
theorem k6_max (W : World) : pcX W ktS exS 40 26 [.d (.str [109, 97, 120]), .d (.int .i64 0)] = some (.tuple [.agg ((primC sg_max).drop 5), .d (.int .i64 0)]) := by kernel_rfl
theorem c0_max (W : World) : chk7 W (primC sg_max) (primC sg_max) ((primC sg_max).drop 5) ((primC sg_max).drop 5) true true 0 0 [] [] false false false false := by unfold chk7; kernel_rfl
theorem l7_max (hW : W0 W) (n : Int) : PC P (gl W) 7 [.d (.str [109, 97, 120]), .d (.int .i64 n)] (.d (.bool true)) := by
  have hA : PC P (gl W) 17 [.d (.str [109, 97, 120])] (.tuple [.agg (primC sg_max), .d (.bool true)]) := pcT_ok hW 40 _ _ _ (ks_max W)
  have hB : PC P (gl W) 25 [.d (.str [109, 97, 120])] (.tuple [.agg (primC sg_max), .d (.bool true)]) := pcT_ok hW 40 _ _ _ (kr_max W)
  have hX := pcT_ok hW 40 _ _ _ (kx_max W)
  have hY := pcT_ok hW 40 _ _ _ (ky_max W)
  by_cases h0 : n = 0
  · subst h0
    have hS := pcX_ok hW (exS_ok hW) 40 _ _ _ (k8_max W)
    have hT := pcX_ok hW (exS_ok hW) 40 _ _ _ (k6_max W)
    exact gen7 hW hA hB hS hT hX hY (c0_max W)
  · have hS := bad18c hW hA h0
    have hT := bad26c hW hB h0
    exact gen7 hW hA hB hS hT hX hY (cb_max W)
theorem kr_ne (W : World) : pcT W 40 25 [.d (.str [110, 101])] = some (.tuple [.agg (primC sg_ne), .d (.bool true)]) := by kernel_rfl
theorem kx_ne (W : World) : pcT W 40 27 [.d (.str [110, 101])] = some (.tuple [(.d (.str [33, 61])), (.d (.bool false)), (.d (.bool true))]) := by kernel_rfl
theorem ky_ne (W : World) : pcT W 40 28 [.d (.str [110, 101])] = some (.tuple [(.d (.str [33, 61])), (.d (.bool false)), (.d (.bool true))]) := by kernel_rfl
theorem cb_ne (W : World) : chk7 W (primC sg_ne) (primC sg_ne) zS5 zS5 true true 1 1 [33, 61] [33, 61] false true false true := by unfold chk7; kernel_rfl
theorem k8_ne (W : World) : pcX W ktS exS 40 18 [.d (.str [110, 101]), .d (.int .i64 0)] = some (.tuple [.agg ((primC sg_ne).drop 5), .d (.int .i64 0)]) := by kernel_rfl
theorem k6_ne (W : World) : pcX W ktS exS 40 26 [.d (.str [110, 101]), .d (.int .i64 0)] = some (.tuple [.agg ((primC sg_ne).drop 5), .d (.int .i64 0)]) := by kernel_rfl
theorem c0_ne (W : World) : chk7 W (primC sg_ne) (primC sg_ne) ((primC sg_ne).drop 5) ((primC sg_ne).drop 5) true true 0 0 [33, 61] [33, 61] false true false true := by unfold chk7; kernel_rfl
theorem l7_ne (hW : W0 W) (n : Int) : PC P (gl W) 7 [.d (.str [110, 101]), .d (.int .i64 n)] (.d (.bool true)) := by
  have hA : PC P (gl W) 17 [.d (.str [110, 101])] (.tuple [.agg (primC sg_ne), .d (.bool true)]) := pcT_ok hW 40 _ _ _ (ks_ne W)
  have hB : PC P (gl W) 25 [.d (.str [110, 101])] (.tuple [.agg (primC sg_ne), .d (.bool true)]) := pcT_ok hW 40 _ _ _ (kr_ne W)
  have hX := pcT_ok hW 40 _ _ _ (kx_ne W)
  have hY := pcT_ok hW 40 _ _ _ (ky_ne W)
  by_cases h0 : n = 0
  · subst h0
    have hS := pcX_ok hW (exS_ok hW) 40 _ _ _ (k8_ne W)
    have hT := pcX_ok hW (exS_ok hW) 40 _ _ _ (k6_ne W)
    exact gen7 hW hA hB hS hT hX hY (c0_ne W)
  · have hS := bad18c hW hA h0
    have hT := bad26c hW hB h0
    exact gen7 hW hA hB hS hT hX hY (cb_ne W)
theorem kr_reverse (W : World) : pcT W 40 25 [.d (.str [114, 101, 118, 101, 114, 115, 101])] = some (.tuple [.agg (primC sg_reverse), .d (.bool true)]) := by kernel_rfl
theorem kx_reverse (W : World) : pcT W 40 27 [.d (.str [114, 101, 118, 101, 114, 115, 101])] = some (.tuple [(.d (.str [])), (.d (.bool false)), (.d (.bool false))]) := by kernel_rfl
theorem ky_reverse (W : World) : pcT W 40 28 [.d (.str [114, 101, 118, 101, 114, 115, 101])] = some (.tuple [(.d (.str [])), (.d (.bool false)), (.d (.bool false))]) := by kernel_rfl
theorem cb_reverse (W : World) : chk7 W (primC sg_reverse) (primC sg_reverse) zS5 zS5 true true 1 1 [] [] false false false false := by unfold chk7; kernel_rfl
theorem k8_reverse (W : World) : pcX W ktS exS 40 18 [.d (.str [114, 101, 118, 101, 114, 115, 101]), .d (.int .i64 0)] = some (.tuple [.agg ((primC sg_reverse).drop 5), .d (.int .i64 0)]) := by kernel_rfl
theorem k6_reverse (W : World) : pcX W ktS exS 40 26 [.d (.str [114, 101, 118, 101, 114, 115, 101]), .d (.int .i64 0)] = some (.tuple [.agg ((primC sg_reverse).drop 5), .d (.int .i64 0)]) := by kernel_rfl
theorem c0_reverse (W : World) : chk7 W (primC sg_reverse) (primC sg_reverse) ((primC sg_reverse).drop 5) ((primC sg_reverse).drop 5) true true 0 0 [] [] false false false false := by unfold chk7; kernel_rfl
theorem l7_reverse (hW : W0 W) (n : Int) : PC P (gl W) 7 [.d (.str [114, 101, 118, 101, 114, 115, 101]), .d (.int .i64 n)] (.d (.bool true)) := by
  have hA : PC P (gl W) 17 [.d (.str [114, 101, 118, 101, 114, 115, 101])] (.tuple [.agg (primC sg_reverse), .d (.bool true)]) := pcT_ok hW 40 _ _ _ (ks_reverse W)
  have hB : PC P (gl W) 25 [.d (.str [114, 101, 118, 101, 114, 115, 101])] (.tuple [.agg (primC sg_reverse), .d (.bool true)]) := pcT_ok hW 40 _ _ _ (kr_reverse W)
  have hX := pcT_ok hW 40 _ _ _ (kx_reverse W)
  have hY := pcT_ok hW 40 _ _ _ (ky_reverse W)
  by_cases h0 : n = 0
  · subst h0
    have hS := pcX_ok hW (exS_ok hW) 40 _ _ _ (k8_reverse W)
    have hT := pcX_ok hW (exS_ok hW) 40 _ _ _ (k6_reverse W)
    exact gen7 hW hA hB hS hT hX hY (c0_reverse W)
  · have hS := bad18c hW hA h0
    have hT := bad26c hW hB h0
    exact gen7 hW hA hB hS hT hX hY (cb_reverse W)
theorem kr_take (W : World) : pcT W 40 25 [.d (.str [116, 97, 107, 101])] = some (.tuple [.agg (primC sg_take), .d (.bool true)]) := by kernel_rfl
theorem kx_take (W : World) : pcT W 40 27 [.d (.str [116, 97, 107, 101])] = some (.tuple [(.d (.str [])), (.d (.bool false)), (.d (.bool false))]) := by kernel_rfl
theorem ky_take (W : World) : pcT W 40 28 [.d (.str [116, 97, 107, 101])] = some (.tuple [(.d (.str [])), (.d (.bool false)), (.d (.bool false))]) := by kernel_rfl
theorem cb_take (W : World) : chk7 W (primC sg_take) (primC sg_take) zS5 zS5 true true 1 1 [] [] false false false false := by unfold chk7; kernel_rfl
theorem k8_take (W : World) : pcX W ktS exS 40 18 [.d (.str [116, 97, 107, 101]), .d (.int .i64 0)] = some (.tuple [.agg ((primC sg_take).drop 5), .d (.int .i64 0)]) := by kernel_rfl
theorem k6_take (W : World) : pcX W ktS exS 40 26 [.d (.str [116, 97, 107, 101]), .d (.int .i64 0)] = some (.tuple [.agg ((primC sg_take).drop 5), .d (.int .i64 0)]) := by kernel_rfl
theorem c0_take (W : World) : chk7 W (primC sg_take) (primC sg_take) ((primC sg_take).drop 5) ((primC sg_take).drop 5) true true 0 0 [] [] false false false false := by unfold chk7; kernel_rfl
theorem l7_take (hW : W0 W) (n : Int) : PC P (gl W) 7 [.d (.str [116, 97, 107, 101]), .d (.int .i64 n)] (.d (.bool true)) := by
  have hA : PC P (gl W) 17 [.d (.str [116, 97, 107, 101])] (.tuple [.agg (primC sg_take), .d (.bool true)]) := pcT_ok hW 40 _ _ _ (ks_take W)
  have hB : PC P (gl W) 25 [.d (.str [116, 97, 107, 101])] (.tuple [.agg (primC sg_take), .d (.bool true)]) := pcT_ok hW 40 _ _ _ (kr_take W)
  have hX := pcT_ok hW 40 _ _ _ (kx_take W)
  have hY := pcT_ok hW 40 _ _ _ (ky_take W)
  by_cases h0 : n = 0
  · subst h0
    have hS := pcX_ok hW (exS_ok hW) 40 _ _ _ (k8_take W)
    have hT := pcX_ok hW (exS_ok hW) 40 _ _ _ (k6_take W)
    exact gen7 hW hA hB hS hT hX hY (c0_take W)
  · have hS := bad18c hW hA h0
    have hT := bad26c hW hB h0
    exact gen7 hW hA hB hS hT hX hY (cb_take W)
theorem kr_windows (W : World) : pcT W 40 25 [.d (.str [119, 105, 110, 100, 111, 119, 115])] = some (.tuple [.agg (primC sg_windows), .d (.bool true)]) := by kernel_rfl
theorem kx_windows (W : World) : pcT W 40 27 [.d (.str [119, 105, 110, 100, 111, 119, 115])] = some (.tuple [(.d (.str [])), (.d (.bool false)), (.d (.bool false))]) := by kernel_rfl
theorem ky_windows (W : World) : pcT W 40 28 [.d (.str [119, 105, 110, 100, 111, 119, 115])] = some (.tuple [(.d (.str [])), (.d (.bool false)), (.d (.bool false))]) := by kernel_rfl
theorem cb_windows (W : World) : chk7 W (primC sg_windows) (primC sg_windows) zS5 zS5 true true 1 1 [] [] false false false false := by unfold chk7; kernel_rfl
theorem k8_windows (W : World) : pcX W ktS exS 40 18 [.d (.str [119, 105, 110, 100, 111, 119, 115]), .d (.int .i64 0)] = some (.tuple [.agg ((primC sg_windows).drop 5), .d (.int .i64 0)]) := by kernel_rfl
theorem k6_windows (W : World) : pcX W ktS exS 40 26 [.d (.str [119, 105, 110, 100, 111, 119, 115]), .d (.int .i64 0)] = some (.tuple [.agg ((primC sg_windows).drop 5), .d (.int .i64 0)]) := by kernel_rfl
theorem c0_windows (W : World) : chk7 W (primC sg_windows) (primC sg_windows) ((primC sg_windows).drop 5) ((primC sg_windows).drop 5) true true 0 0 [] [] false false false false := by unfold chk7; kernel_rfl
theorem l7_windows (hW : W0 W) (n : Int) : PC P (gl W) 7 [.d (.str [119, 105, 110, 100, 111, 119, 115]), .d (.int .i64 n)] (.d (.bool true)) := by
  have hA : PC P (gl W) 17 [.d (.str [119, 105, 110, 100, 111, 119, 115])] (.tuple [.agg (primC sg_windows), .d (.bool true)]) := pcT_ok hW 40 _ _ _ (ks_windows W)
  have hB : PC P (gl W) 25 [.d (.str [119, 105, 110, 100, 111, 119, 115])] (.tuple [.agg (primC sg_windows), .d (.bool true)]) := pcT_ok hW 40 _ _ _ (kr_windows W)
  have hX := pcT_ok hW 40 _ _ _ (kx_windows W)
  have hY := pcT_ok hW 40 _ _ _ (ky_windows W)
  by_cases h0 : n = 0
  · subst h0
    have hS := pcX_ok hW (exS_ok hW) 40 _ _ _ (k8_windows W)
    have hT := pcX_ok hW (exS_ok hW) 40 _ _ _ (k6_windows W)
    exact gen7 hW hA hB hS hT hX hY (c0_windows W)
  · have hS := bad18c hW hA h0
    have hT := bad26c hW hB h0
    exact gen7 hW hA hB hS hT hX hY (cb_windows W)
end Fw.Tz
