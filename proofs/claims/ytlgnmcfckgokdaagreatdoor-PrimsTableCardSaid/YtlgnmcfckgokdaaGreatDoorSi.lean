/-
  PrimsTable: what its callees answer at add, div, ge, le, mod, not, sign, transpose, and the law there.
-/
import Derived.Test.YtlgnmcfckgokdaaGreatDoorSf
import Derived.Test.YtlgnmcfckgokdaaGreatDoorSg

set_option linter.unusedVariables false
set_option maxRecDepth 1000000
set_option maxHeartbeats 1000000
namespace Fw.Tz
open Go Go.Proofs Fw.X
variable {W : World}
theorem kr_add (W : World) : pcT W 40 25 [.d (.str [97, 100, 100])] = some (.tuple [.agg (primC sg_add), .d (.bool true)]) := by kernel_rfl
theorem kx_add (W : World) : pcT W 40 27 [.d (.str [97, 100, 100])] = some (.tuple [(.d (.str [43])), (.d (.bool false)), (.d (.bool true))]) := by kernel_rfl
theorem ky_add (W : World) : pcT W 40 28 [.d (.str [97, 100, 100])] = some (.tuple [(.d (.str [43])), (.d (.bool false)), (.d (.bool true))]) := by kernel_rfl
theorem cb_add (W : World) : chk7 W (primC sg_add) (primC sg_add) zS5 zS5 true true 1 1 [43] [43] false true false true := by unfold chk7; kernel_rfl
theorem k8_add (W : World) : pcX W ktS exS 40 18 [.d (.str [97, 100, 100]), .d (.int .i64 0)] = some (.tuple [.agg ((primC sg_add).drop 5), .d (.int .i64 0)]) := by kernel_rfl
theorem k6_add (W : World) : pcX W ktS exS 40 26 [.d (.str [97, 100, 100]), .d (.int .i64 0)] = some (.tuple [.agg ((primC sg_add).drop 5), .d (.int .i64 0)]) := by kernel_rfl
theorem c0_add (W : World) : chk7 W (primC sg_add) (primC sg_add) ((primC sg_add).drop 5) ((primC sg_add).drop 5) true true 0 0 [43] [43] false true false true := by unfold chk7; kernel_rfl
theorem l7_add (hW : W0 W) (n : Int) : PC P (gl W) 7 [.d (.str [97, 100, 100]), .d (.int .i64 n)] (.d (.bool true)) := by
  have hA : PC P (gl W) 17 [.d (.str [97, 100, 100])] (.tuple [.agg (primC sg_add), .d (.bool true)]) := pcT_ok hW 40 _ _ _ (ks_add W)
  have hB : PC P (gl W) 25 [.d (.str [97, 100, 100])] (.tuple [.agg (primC sg_add), .d (.bool true)]) := pcT_ok hW 40 _ _ _ (kr_add W)
  have hX := pcT_ok hW 40 _ _ _ (kx_add W)
  have hY := pcT_ok hW 40 _ _ _ (ky_add W)
  by_cases h0 : n = 0
  · subst h0
    have hS := pcX_ok hW (exS_ok hW) 40 _ _ _ (k8_add W)
    have hT := pcX_ok hW (exS_ok hW) 40 _ _ _ (k6_add W)
    exact gen7 hW hA hB hS hT hX hY (c0_add W)
  · have hS := bad18c hW hA h0
    have hT := bad26c hW hB h0
    exact gen7 hW hA hB hS hT hX hY (cb_add W)
theorem kr_div (W : World) : pcT W 40 25 [.d (.str [100, 105, 118])] = some (.tuple [.agg (primC sg_div), .d (.bool true)]) := by kernel_rfl
theorem kx_div (W : World) : pcT W 40 27 [.d (.str [100, 105, 118])] = some (.tuple [(.d (.str [47])), (.d (.bool false)), (.d (.bool true))]) := by kernel_rfl
theorem ky_div (W : World) : pcT W 40 28 [.d (.str [100, 105, 118])] = some (.tuple [(.d (.str [47])), (.d (.bool false)), (.d (.bool true))]) := by kernel_rfl
theorem cb_div (W : World) : chk7 W (primC sg_div) (primC sg_div) zS5 zS5 true true 1 1 [47] [47] false true false true := by unfold chk7; kernel_rfl
theorem k8_div (W : World) : pcX W ktS exS 40 18 [.d (.str [100, 105, 118]), .d (.int .i64 0)] = some (.tuple [.agg ((primC sg_div).drop 5), .d (.int .i64 0)]) := by kernel_rfl
theorem k6_div (W : World) : pcX W ktS exS 40 26 [.d (.str [100, 105, 118]), .d (.int .i64 0)] = some (.tuple [.agg ((primC sg_div).drop 5), .d (.int .i64 0)]) := by kernel_rfl
theorem c0_div (W : World) : chk7 W (primC sg_div) (primC sg_div) ((primC sg_div).drop 5) ((primC sg_div).drop 5) true true 0 0 [47] [47] false true false true := by unfold chk7; kernel_rfl
theorem l7_div (hW : W0 W) (n : Int) : PC P (gl W) 7 [.d (.str [100, 105, 118]), .d (.int .i64 n)] (.d (.bool true)) := by
  have hA : PC P (gl W) 17 [.d (.str [100, 105, 118])] (.tuple [.agg (primC sg_div), .d (.bool true)]) := pcT_ok hW 40 _ _ _ (ks_div W)
  have hB : PC P (gl W) 25 [.d (.str [100, 105, 118])] (.tuple [.agg (primC sg_div), .d (.bool true)]) := pcT_ok hW 40 _ _ _ (kr_div W)
  have hX := pcT_ok hW 40 _ _ _ (kx_div W)
  have hY := pcT_ok hW 40 _ _ _ (ky_div W)
  by_cases h0 : n = 0
  · subst h0
    have hS := pcX_ok hW (exS_ok hW) 40 _ _ _ (k8_div W)
    have hT := pcX_ok hW (exS_ok hW) 40 _ _ _ (k6_div W)
    exact gen7 hW hA hB hS hT hX hY (c0_div W)
  · have hS := bad18c hW hA h0
    have hT := bad26c hW hB h0
    exact gen7 hW hA hB hS hT hX hY (cb_div W)
theorem kr_ge (W : World) : pcT W 40 25 [.d (.str [103, 101])] = some (.tuple [.agg (primC sg_ge), .d (.bool true)]) := by kernel_rfl
theorem kx_ge (W : World) : pcT W 40 27 [.d (.str [103, 101])] = some (.tuple [(.d (.str [62, 61])), (.d (.bool false)), (.d (.bool true))]) := by kernel_rfl
theorem ky_ge (W : World) : pcT W 40 28 [.d (.str [103, 101])] = some (.tuple [(.d (.str [62, 61])), (.d (.bool false)), (.d (.bool true))]) := by kernel_rfl
theorem cb_ge (W : World) : chk7 W (primC sg_ge) (primC sg_ge) zS5 zS5 true true 1 1 [62, 61] [62, 61] false true false true := by unfold chk7; kernel_rfl
theorem k8_ge (W : World) : pcX W ktS exS 40 18 [.d (.str [103, 101]), .d (.int .i64 0)] = some (.tuple [.agg ((primC sg_ge).drop 5), .d (.int .i64 0)]) := by kernel_rfl
theorem k6_ge (W : World) : pcX W ktS exS 40 26 [.d (.str [103, 101]), .d (.int .i64 0)] = some (.tuple [.agg ((primC sg_ge).drop 5), .d (.int .i64 0)]) := by kernel_rfl
theorem c0_ge (W : World) : chk7 W (primC sg_ge) (primC sg_ge) ((primC sg_ge).drop 5) ((primC sg_ge).drop 5) true true 0 0 [62, 61] [62, 61] false true false true := by unfold chk7; kernel_rfl
theorem l7_ge (hW : W0 W) (n : Int) : PC P (gl W) 7 [.d (.str [103, 101]), .d (.int .i64 n)] (.d (.bool true)) := by
  have hA : PC P (gl W) 17 [.d (.str [103, 101])] (.tuple [.agg (primC sg_ge), .d (.bool true)]) := pcT_ok hW 40 _ _ _ (ks_ge W)
  have hB : PC P (gl W) 25 [.d (.str [103, 101])] (.tuple [.agg (primC sg_ge), .d (.bool true)]) := pcT_ok hW 40 _ _ _ (kr_ge W)
  have hX := pcT_ok hW 40 _ _ _ (kx_ge W)
  have hY := pcT_ok hW 40 _ _ _ (ky_ge W)
  by_cases h0 : n = 0
  · subst h0
    have hS := pcX_ok hW (exS_ok hW) 40 _ _ _ (k8_ge W)
    have hT := pcX_ok hW (exS_ok hW) 40 _ _ _ (k6_ge W)
    exact gen7 hW hA hB hS hT hX hY (c0_ge W)
  · have hS := bad18c hW hA h0
    have hT := bad26c hW hB h0
    exact gen7 hW hA hB hS hT hX hY (cb_ge W)
theorem kr_le (W : World) : pcT W 40 25 [.d (.str [108, 101])] = some (.tuple [.agg (primC sg_le), .d (.bool true)]) := by kernel_rfl
theorem kx_le (W : World) : pcT W 40 27 [.d (.str [108, 101])] = some (.tuple [(.d (.str [60, 61])), (.d (.bool false)), (.d (.bool true))]) := by kernel_rfl
theorem ky_le (W : World) : pcT W 40 28 [.d (.str [108, 101])] = some (.tuple [(.d (.str [60, 61])), (.d (.bool false)), (.d (.bool true))]) := by kernel_rfl
theorem cb_le (W : World) : chk7 W (primC sg_le) (primC sg_le) zS5 zS5 true true 1 1 [60, 61] [60, 61] false true false true := by unfold chk7; kernel_rfl
theorem k8_le (W : World) : pcX W ktS exS 40 18 [.d (.str [108, 101]), .d (.int .i64 0)] = some (.tuple [.agg ((primC sg_le).drop 5), .d (.int .i64 0)]) := by kernel_rfl
theorem k6_le (W : World) : pcX W ktS exS 40 26 [.d (.str [108, 101]), .d (.int .i64 0)] = some (.tuple [.agg ((primC sg_le).drop 5), .d (.int .i64 0)]) := by kernel_rfl
theorem c0_le (W : World) : chk7 W (primC sg_le) (primC sg_le) ((primC sg_le).drop 5) ((primC sg_le).drop 5) true true 0 0 [60, 61] [60, 61] false true false true := by unfold chk7; kernel_rfl
theorem l7_le (hW : W0 W) (n : Int) : PC P (gl W) 7 [.d (.str [108, 101]), .d (.int .i64 n)] (.d (.bool true)) := by
  have hA : PC P (gl W) 17 [.d (.str [108, 101])] (.tuple [.agg (primC sg_le), .d (.bool true)]) := pcT_ok hW 40 _ _ _ (ks_le W)
  have hB : PC P (gl W) 25 [.d (.str [108, 101])] (.tuple [.agg (primC sg_le), .d (.bool true)]) := pcT_ok hW 40 _ _ _ (kr_le W)
  have hX := pcT_ok hW 40 _ _ _ (kx_le W)
  have hY := pcT_ok hW 40 _ _ _ (ky_le W)
  by_cases h0 : n = 0
  · subst h0
    have hS := pcX_ok hW (exS_ok hW) 40 _ _ _ (k8_le W)
    have hT := pcX_ok hW (exS_ok hW) 40 _ _ _ (k6_le W)
    exact gen7 hW hA hB hS hT hX hY (c0_le W)
  · have hS := bad18c hW hA h0
    have hT := bad26c hW hB h0
    exact gen7 hW hA hB hS hT hX hY (cb_le W)
theorem kr_mod (W : World) : pcT W 40 25 [.d (.str [109, 111, 100])] = some (.tuple [.agg (primC sg_mod), .d (.bool true)]) := by kernel_rfl
theorem kx_mod (W : World) : pcT W 40 27 [.d (.str [109, 111, 100])] = some (.tuple [(.d (.str [37])), (.d (.bool false)), (.d (.bool true))]) := by kernel_rfl
theorem ky_mod (W : World) : pcT W 40 28 [.d (.str [109, 111, 100])] = some (.tuple [(.d (.str [37])), (.d (.bool false)), (.d (.bool true))]) := by kernel_rfl
theorem cb_mod (W : World) : chk7 W (primC sg_mod) (primC sg_mod) zS5 zS5 true true 1 1 [37] [37] false true false true := by unfold chk7; kernel_rfl
theorem k8_mod (W : World) : pcX W ktS exS 40 18 [.d (.str [109, 111, 100]), .d (.int .i64 0)] = some (.tuple [.agg ((primC sg_mod).drop 5), .d (.int .i64 0)]) := by kernel_rfl
theorem k6_mod (W : World) : pcX W ktS exS 40 26 [.d (.str [109, 111, 100]), .d (.int .i64 0)] = some (.tuple [.agg ((primC sg_mod).drop 5), .d (.int .i64 0)]) := by kernel_rfl
theorem c0_mod (W : World) : chk7 W (primC sg_mod) (primC sg_mod) ((primC sg_mod).drop 5) ((primC sg_mod).drop 5) true true 0 0 [37] [37] false true false true := by unfold chk7; kernel_rfl
theorem l7_mod (hW : W0 W) (n : Int) : PC P (gl W) 7 [.d (.str [109, 111, 100]), .d (.int .i64 n)] (.d (.bool true)) := by
  have hA : PC P (gl W) 17 [.d (.str [109, 111, 100])] (.tuple [.agg (primC sg_mod), .d (.bool true)]) := pcT_ok hW 40 _ _ _ (ks_mod W)
  have hB : PC P (gl W) 25 [.d (.str [109, 111, 100])] (.tuple [.agg (primC sg_mod), .d (.bool true)]) := pcT_ok hW 40 _ _ _ (kr_mod W)
  have hX := pcT_ok hW 40 _ _ _ (kx_mod W)
  have hY := pcT_ok hW 40 _ _ _ (ky_mod W)
  by_cases h0 : n = 0
  · subst h0
    have hS := pcX_ok hW (exS_ok hW) 40 _ _ _ (k8_mod W)
    have hT := pcX_ok hW (exS_ok hW) 40 _ _ _ (k6_mod W)
    exact gen7 hW hA hB hS hT hX hY (c0_mod W)
  · have hS := bad18c hW hA h0
    have hT := bad26c hW hB h0
    exact gen7 hW hA hB hS hT hX hY (cb_mod W)
theorem kr_not (W : World) : pcT W 40 25 [.d (.str [110, 111, 116])] = some (.tuple [.agg (primC sg_not), .d (.bool true)]) := by kernel_rfl
theorem kx_not (W : World) : pcT W 40 27 [.d (.str [110, 111, 116])] = some (.tuple [(.d (.str [33])), (.d (.bool true)), (.d (.bool true))]) := by kernel_rfl
theorem ky_not (W : World) : pcT W 40 28 [.d (.str [110, 111, 116])] = some (.tuple [(.d (.str [33])), (.d (.bool true)), (.d (.bool true))]) := by kernel_rfl
theorem cb_not (W : World) : chk7 W (primC sg_not) (primC sg_not) zS5 zS5 true true 1 1 [33] [33] true true true true := by unfold chk7; kernel_rfl
theorem k8_not (W : World) : pcX W ktS exS 40 18 [.d (.str [110, 111, 116]), .d (.int .i64 0)] = some (.tuple [.agg ((primC sg_not).drop 5), .d (.int .i64 0)]) := by kernel_rfl
theorem k6_not (W : World) : pcX W ktS exS 40 26 [.d (.str [110, 111, 116]), .d (.int .i64 0)] = some (.tuple [.agg ((primC sg_not).drop 5), .d (.int .i64 0)]) := by kernel_rfl
theorem c0_not (W : World) : chk7 W (primC sg_not) (primC sg_not) ((primC sg_not).drop 5) ((primC sg_not).drop 5) true true 0 0 [33] [33] true true true true := by unfold chk7; kernel_rfl
theorem l7_not (hW : W0 W) (n : Int) : PC P (gl W) 7 [.d (.str [110, 111, 116]), .d (.int .i64 n)] (.d (.bool true)) := by
  have hA : PC P (gl W) 17 [.d (.str [110, 111, 116])] (.tuple [.agg (primC sg_not), .d (.bool true)]) := pcT_ok hW 40 _ _ _ (ks_not W)
  have hB : PC P (gl W) 25 [.d (.str [110, 111, 116])] (.tuple [.agg (primC sg_not), .d (.bool true)]) := pcT_ok hW 40 _ _ _ (kr_not W)
  have hX := pcT_ok hW 40 _ _ _ (kx_not W)
  have hY := pcT_ok hW 40 _ _ _ (ky_not W)
  by_cases h0 : n = 0
  · subst h0
    have hS := pcX_ok hW (exS_ok hW) 40 _ _ _ (k8_not W)
    have hT := pcX_ok hW (exS_ok hW) 40 _ _ _ (k6_not W)
    exact gen7 hW hA hB hS hT hX hY (c0_not W)
  · have hS := bad18c hW hA h0
    have hT := bad26c hW hB h0
    exact gen7 hW hA hB hS hT hX hY (cb_not W)
theorem kr_sign (W : World) : pcT W 40 25 [.d (.str [115, 105, 103, 110])] = some (.tuple [.agg (primC sg_sign), .d (.bool true)]) := by kernel_rfl
theorem kx_sign (W : World) : pcT W 40 27 [.d (.str [115, 105, 103, 110])] = some (.tuple [(.d (.str [])), (.d (.bool false)), (.d (.bool false))]) := by kernel_rfl
theorem ky_sign (W : World) : pcT W 40 28 [.d (.str [115, 105, 103, 110])] = some (.tuple [(.d (.str [])), (.d (.bool false)), (.d (.bool false))]) := by kernel_rfl
theorem cb_sign (W : World) : chk7 W (primC sg_sign) (primC sg_sign) zS5 zS5 true true 1 1 [] [] false false false false := by unfold chk7; kernel_rfl
theorem k8_sign (W : World) : pcX W ktS exS 40 18 [.d (.str [115, 105, 103, 110]), .d (.int .i64 0)] = some (.tuple [.agg ((primC sg_sign).drop 5), .d (.int .i64 0)]) := by kernel_rfl
theorem k6_sign (W : World) : pcX W ktS exS 40 26 [.d (.str [115, 105, 103, 110]), .d (.int .i64 0)] = some (.tuple [.agg ((primC sg_sign).drop 5), .d (.int .i64 0)]) := by kernel_rfl
theorem c0_sign (W : World) : chk7 W (primC sg_sign) (primC sg_sign) ((primC sg_sign).drop 5) ((primC sg_sign).drop 5) true true 0 0 [] [] false false false false := by unfold chk7; kernel_rfl
theorem l7_sign (hW : W0 W) (n : Int) : PC P (gl W) 7 [.d (.str [115, 105, 103, 110]), .d (.int .i64 n)] (.d (.bool true)) := by
  have hA : PC P (gl W) 17 [.d (.str [115, 105, 103, 110])] (.tuple [.agg (primC sg_sign), .d (.bool true)]) := pcT_ok hW 40 _ _ _ (ks_sign W)
  have hB : PC P (gl W) 25 [.d (.str [115, 105, 103, 110])] (.tuple [.agg (primC sg_sign), .d (.bool true)]) := pcT_ok hW 40 _ _ _ (kr_sign W)
  have hX := pcT_ok hW 40 _ _ _ (kx_sign W)
  have hY := pcT_ok hW 40 _ _ _ (ky_sign W)
  by_cases h0 : n = 0
  · subst h0
    have hS := pcX_ok hW (exS_ok hW) 40 _ _ _ (k8_sign W)
    have hT := pcX_ok hW (exS_ok hW) 40 _ _ _ (k6_sign W)
    exact gen7 hW hA hB hS hT hX hY (c0_sign W)
  · have hS := bad18c hW hA h0
    have hT := bad26c hW hB h0
    exact gen7 hW hA hB hS hT hX hY (cb_sign W)
theorem kr_transpose (W : World) : pcT W 40 25 [.d (.str [116, 114, 97, 110, 115, 112, 111, 115, 101])] = some (.tuple [.agg (primC sg_transpose), .d (.bool true)]) := by kernel_rfl
theorem kx_transpose (W : World) : pcT W 40 27 [.d (.str [116, 114, 97, 110, 115, 112, 111, 115, 101])] = some (.tuple [(.d (.str [])), (.d (.bool false)), (.d (.bool false))]) := by kernel_rfl
theorem ky_transpose (W : World) : pcT W 40 28 [.d (.str [116, 114, 97, 110, 115, 112, 111, 115, 101])] = some (.tuple [(.d (.str [])), (.d (.bool false)), (.d (.bool false))]) := by kernel_rfl
theorem cb_transpose (W : World) : chk7 W (primC sg_transpose) (primC sg_transpose) zS5 zS5 true true 1 1 [] [] false false false false := by unfold chk7; kernel_rfl
theorem k8_transpose (W : World) : pcX W ktS exS 40 18 [.d (.str [116, 114, 97, 110, 115, 112, 111, 115, 101]), .d (.int .i64 0)] = some (.tuple [.agg ((primC sg_transpose).drop 5), .d (.int .i64 0)]) := by kernel_rfl
theorem k6_transpose (W : World) : pcX W ktS exS 40 26 [.d (.str [116, 114, 97, 110, 115, 112, 111, 115, 101]), .d (.int .i64 0)] = some (.tuple [.agg ((primC sg_transpose).drop 5), .d (.int .i64 0)]) := by kernel_rfl
theorem c0_transpose (W : World) : chk7 W (primC sg_transpose) (primC sg_transpose) ((primC sg_transpose).drop 5) ((primC sg_transpose).drop 5) true true 0 0 [] [] false false false false := by unfold chk7; kernel_rfl
theorem l7_transpose (hW : W0 W) (n : Int) : PC P (gl W) 7 [.d (.str [116, 114, 97, 110, 115, 112, 111, 115, 101]), .d (.int .i64 n)] (.d (.bool true)) := by
  have hA : PC P (gl W) 17 [.d (.str [116, 114, 97, 110, 115, 112, 111, 115, 101])] (.tuple [.agg (primC sg_transpose), .d (.bool true)]) := pcT_ok hW 40 _ _ _ (ks_transpose W)
  have hB : PC P (gl W) 25 [.d (.str [116, 114, 97, 110, 115, 112, 111, 115, 101])] (.tuple [.agg (primC sg_transpose), .d (.bool true)]) := pcT_ok hW 40 _ _ _ (kr_transpose W)
  have hX := pcT_ok hW 40 _ _ _ (kx_transpose W)
  have hY := pcT_ok hW 40 _ _ _ (ky_transpose W)
  by_cases h0 : n = 0
  · subst h0
    have hS := pcX_ok hW (exS_ok hW) 40 _ _ _ (k8_transpose W)
    have hT := pcX_ok hW (exS_ok hW) 40 _ _ _ (k6_transpose W)
    exact gen7 hW hA hB hS hT hX hY (c0_transpose W)
  · have hS := bad18c hW hA h0
    have hT := bad26c hW hB h0
    exact gen7 hW hA hB hS hT hX hY (cb_transpose W)
end Fw.Tz
