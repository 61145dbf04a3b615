/-
  PrimsTable: the call returns true.
-/
import Derived.Test.YtlgnmcfckgokdaaGreatDoorSh
import Derived.Test.YtlgnmcfckgokdaaGreatDoorSl
import Derived.Test.YtlgnmcfckgokdaaGreatDoorSi
import Derived.Test.YtlgnmcfckgokdaaGreatDoorSm
import Derived.Test.YtlgnmcfckgokdaaGreatDoorSj
import Derived.Test.YtlgnmcfckgokdaaGreatDoorSn
import Derived.Test.YtlgnmcfckgokdaaGreatDoorSk
import Derived.Test.YtlgnmcfckgokdaaGreatDoorSo
import Derived.Test.YtlgnmcfckgokdaaGreatDoorTf

set_option linter.unusedVariables false
set_option maxRecDepth 1000000
set_option maxHeartbeats 1000000
namespace Fw.Tz
open Go Go.Proofs Fw.X
variable {W : World}
theorem kr_chunk (W : World) : pcT W 40 25 [.d (.str [99, 104, 117, 110, 107])] = some (.tuple [.agg (primC sg_chunk), .d (.bool true)]) := by kernel_rfl
theorem kx_chunk (W : World) : pcT W 40 27 [.d (.str [99, 104, 117, 110, 107])] = some (.tuple [(.d (.str [])), (.d (.bool false)), (.d (.bool false))]) := by kernel_rfl
theorem ky_chunk (W : World) : pcT W 40 28 [.d (.str [99, 104, 117, 110, 107])] = some (.tuple [(.d (.str [])), (.d (.bool false)), (.d (.bool false))]) := by kernel_rfl
theorem cb_chunk (W : World) : chk7 W (primC sg_chunk) (primC sg_chunk) zS5 zS5 true true 1 1 [] [] false false false false := by unfold chk7; kernel_rfl
theorem chunk8 (W : World) : ∀ j, j < 64 → pcX W ktS exS 40 18 [.d (.str [99, 104, 117, 110, 107]), .d (.int .i64 (Int.ofNat (j + 1)))] = some (.tuple [.agg (scC (Int.ofNat (j + 1))), .d (.int .i64 0)])
  | 0, _ => kc8_0 W
  | 1, _ => kc8_1 W
  | 2, _ => kc8_2 W
  | 3, _ => kc8_3 W
  | 4, _ => kc8_4 W
  | 5, _ => kc8_5 W
  | 6, _ => kc8_6 W
  | 7, _ => kc8_7 W
  | 8, _ => kc8_8 W
  | 9, _ => kc8_9 W
  | 10, _ => kc8_10 W
  | 11, _ => kc8_11 W
  | 12, _ => kc8_12 W
  | 13, _ => kc8_13 W
  | 14, _ => kc8_14 W
  | 15, _ => kc8_15 W
  | 16, _ => kc8_16 W
  | 17, _ => kc8_17 W
  | 18, _ => kc8_18 W
  | 19, _ => kc8_19 W
  | 20, _ => kc8_20 W
  | 21, _ => kc8_21 W
  | 22, _ => kc8_22 W
  | 23, _ => kc8_23 W
  | 24, _ => kc8_24 W
  | 25, _ => kc8_25 W
  | 26, _ => kc8_26 W
  | 27, _ => kc8_27 W
  | 28, _ => kc8_28 W
  | 29, _ => kc8_29 W
  | 30, _ => kc8_30 W
  | 31, _ => kc8_31 W
  | 32, _ => kc8_32 W
  | 33, _ => kc8_33 W
  | 34, _ => kc8_34 W
  | 35, _ => kc8_35 W
  | 36, _ => kc8_36 W
  | 37, _ => kc8_37 W
  | 38, _ => kc8_38 W
  | 39, _ => kc8_39 W
  | 40, _ => kc8_40 W
  | 41, _ => kc8_41 W
  | 42, _ => kc8_42 W
  | 43, _ => kc8_43 W
  | 44, _ => kc8_44 W
  | 45, _ => kc8_45 W
  | 46, _ => kc8_46 W
  | 47, _ => kc8_47 W
  | 48, _ => kc8_48 W
  | 49, _ => kc8_49 W
  | 50, _ => kc8_50 W
  | 51, _ => kc8_51 W
  | 52, _ => kc8_52 W
  | 53, _ => kc8_53 W
  | 54, _ => kc8_54 W
  | 55, _ => kc8_55 W
  | 56, _ => kc8_56 W
  | 57, _ => kc8_57 W
  | 58, _ => kc8_58 W
  | 59, _ => kc8_59 W
  | 60, _ => kc8_60 W
  | 61, _ => kc8_61 W
  | 62, _ => kc8_62 W
  | 63, _ => kc8_63 W
  | n + 64, h => by omega
theorem chunk6 (W : World) : ∀ j, j < 64 → pcX W ktS exS 40 26 [.d (.str [99, 104, 117, 110, 107]), .d (.int .i64 (Int.ofNat (j + 1)))] = some (.tuple [.agg (scC (Int.ofNat (j + 1))), .d (.int .i64 0)])
  | 0, _ => kc6_0 W
  | 1, _ => kc6_1 W
  | 2, _ => kc6_2 W
  | 3, _ => kc6_3 W
  | 4, _ => kc6_4 W
  | 5, _ => kc6_5 W
  | 6, _ => kc6_6 W
  | 7, _ => kc6_7 W
  | 8, _ => kc6_8 W
  | 9, _ => kc6_9 W
  | 10, _ => kc6_10 W
  | 11, _ => kc6_11 W
  | 12, _ => kc6_12 W
  | 13, _ => kc6_13 W
  | 14, _ => kc6_14 W
  | 15, _ => kc6_15 W
  | 16, _ => kc6_16 W
  | 17, _ => kc6_17 W
  | 18, _ => kc6_18 W
  | 19, _ => kc6_19 W
  | 20, _ => kc6_20 W
  | 21, _ => kc6_21 W
  | 22, _ => kc6_22 W
  | 23, _ => kc6_23 W
  | 24, _ => kc6_24 W
  | 25, _ => kc6_25 W
  | 26, _ => kc6_26 W
  | 27, _ => kc6_27 W
  | 28, _ => kc6_28 W
  | 29, _ => kc6_29 W
  | 30, _ => kc6_30 W
  | 31, _ => kc6_31 W
  | 32, _ => kc6_32 W
  | 33, _ => kc6_33 W
  | 34, _ => kc6_34 W
  | 35, _ => kc6_35 W
  | 36, _ => kc6_36 W
  | 37, _ => kc6_37 W
  | 38, _ => kc6_38 W
  | 39, _ => kc6_39 W
  | 40, _ => kc6_40 W
  | 41, _ => kc6_41 W
  | 42, _ => kc6_42 W
  | 43, _ => kc6_43 W
  | 44, _ => kc6_44 W
  | 45, _ => kc6_45 W
  | 46, _ => kc6_46 W
  | 47, _ => kc6_47 W
  | 48, _ => kc6_48 W
  | 49, _ => kc6_49 W
  | 50, _ => kc6_50 W
  | 51, _ => kc6_51 W
  | 52, _ => kc6_52 W
  | 53, _ => kc6_53 W
  | 54, _ => kc6_54 W
  | 55, _ => kc6_55 W
  | 56, _ => kc6_56 W
  | 57, _ => kc6_57 W
  | 58, _ => kc6_58 W
  | 59, _ => kc6_59 W
  | 60, _ => kc6_60 W
  | 61, _ => kc6_61 W
  | 62, _ => kc6_62 W
  | 63, _ => kc6_63 W
  | n + 64, h => by omega
theorem chunkc (W : World) : ∀ j, j < 64 → chk7 W (primC sg_chunk) (primC sg_chunk) (scC (Int.ofNat (j + 1))) (scC (Int.ofNat (j + 1))) true true 0 0 [] [] false false false false
  | 0, _ => cc_0 W
  | 1, _ => cc_1 W
  | 2, _ => cc_2 W
  | 3, _ => cc_3 W
  | 4, _ => cc_4 W
  | 5, _ => cc_5 W
  | 6, _ => cc_6 W
  | 7, _ => cc_7 W
  | 8, _ => cc_8 W
  | 9, _ => cc_9 W
  | 10, _ => cc_10 W
  | 11, _ => cc_11 W
  | 12, _ => cc_12 W
  | 13, _ => cc_13 W
  | 14, _ => cc_14 W
  | 15, _ => cc_15 W
  | 16, _ => cc_16 W
  | 17, _ => cc_17 W
  | 18, _ => cc_18 W
  | 19, _ => cc_19 W
  | 20, _ => cc_20 W
  | 21, _ => cc_21 W
  | 22, _ => cc_22 W
  | 23, _ => cc_23 W
  | 24, _ => cc_24 W
  | 25, _ => cc_25 W
  | 26, _ => cc_26 W
  | 27, _ => cc_27 W
  | 28, _ => cc_28 W
  | 29, _ => cc_29 W
  | 30, _ => cc_30 W
  | 31, _ => cc_31 W
  | 32, _ => cc_32 W
  | 33, _ => cc_33 W
  | 34, _ => cc_34 W
  | 35, _ => cc_35 W
  | 36, _ => cc_36 W
  | 37, _ => cc_37 W
  | 38, _ => cc_38 W
  | 39, _ => cc_39 W
  | 40, _ => cc_40 W
  | 41, _ => cc_41 W
  | 42, _ => cc_42 W
  | 43, _ => cc_43 W
  | 44, _ => cc_44 W
  | 45, _ => cc_45 W
  | 46, _ => cc_46 W
  | 47, _ => cc_47 W
  | 48, _ => cc_48 W
  | 49, _ => cc_49 W
  | 50, _ => cc_50 W
  | 51, _ => cc_51 W
  | 52, _ => cc_52 W
  | 53, _ => cc_53 W
  | 54, _ => cc_54 W
  | 55, _ => cc_55 W
  | 56, _ => cc_56 W
  | 57, _ => cc_57 W
  | 58, _ => cc_58 W
  | 59, _ => cc_59 W
  | 60, _ => cc_60 W
  | 61, _ => cc_61 W
  | 62, _ => cc_62 W
  | 63, _ => cc_63 W
  | n + 64, h => by omega
theorem l7_chunk (hW : W0 W) (n : Int) : PC P (gl W) 7 [.d (.str [99, 104, 117, 110, 107]), .d (.int .i64 n)] (.d (.bool true)) := by
  have hA : PC P (gl W) 17 [.d (.str [99, 104, 117, 110, 107])] (.tuple [.agg (primC sg_chunk), .d (.bool true)]) := pcT_ok hW 40 _ _ _ (ks_chunk W)
  have hB : PC P (gl W) 25 [.d (.str [99, 104, 117, 110, 107])] (.tuple [.agg (primC sg_chunk), .d (.bool true)]) := pcT_ok hW 40 _ _ _ (kr_chunk W)
  have hX := pcT_ok hW 40 _ _ _ (kx_chunk W)
  have hY := pcT_ok hW 40 _ _ _ (ky_chunk W)
  by_cases h1 : n < 1
  · have hS := bad18a hW hA h1
    have hT := bad26a hW hB h1
    exact gen7 hW hA hB hS hT hX hY (cb_chunk W)
  by_cases h2 : 64 < n
  · have hS := bad18b hW hA h2
    have hT := bad26b hW hB h2
    exact gen7 hW hA hB hS hT hX hY (cb_chunk W)
  obtain ⟨j, rfl⟩ : ∃ j : Nat, n = Int.ofNat (j + 1) := ⟨(n - 1).toNat, by simp; omega⟩
  have hj : j < 64 := by simp at h2; omega
  have hS := pcX_ok hW (exS_ok hW) 40 _ _ _ (chunk8 W j hj)
  have hT := pcX_ok hW (exS_ok hW) 40 _ _ _ (chunk6 W j hj)
  exact gen7 hW hA hB hS hT hX hY (chunkc W j hj)
theorem cu (W : World) : chk7 W [.d (.str []), .d (.bool false), .d (.bool false), .d (.bool false), .d (.list []), .d (.list []), .d (.str []), .d (.str []), .d (.list []), .d (.list [])] [.d (.str []), .d (.bool false), .d (.bool false), .d (.bool false), .d (.list []), .d (.list []), .d (.str []), .d (.str []), .d (.list []), .d (.list [])] zS5 zS5 false false 7 7 [] [] false false false false := by unfold chk7; kernel_rfl
theorem l7_un (hW : W0 W) {s : List UInt8} (n : Int) (h : nN s = true) : PC P (gl W) 7 [.d (.str s), .d (.int .i64 n)] (.d (.bool true)) := by
  have hA := n17 hW h
  have hB := n25 hW h
  have hS := n18 hW n h
  have hT := n26 hW n h
  have hX := n27 hW h
  have hY := n28 hW h
  exact gen7 hW hA hB hS hT hX hY (cu W)
theorem law7 (hW : W0 W) (s : List UInt8) (n : Int) : PC P (gl W) 7 [.d (.str s), .d (.int .i64 n)] (.d (.bool true)) := by
  cases h : nN s with
  | true => exact l7_un hW n h
  | false =>
    have : ¬ ∀ c ∈ nmT, (!Fw.bytesEq s c) = true := by
      intro hall
      have : nN s = true := List.all_eq_true.2 hall
      rw [h] at this; cases this
    simp only [Classical.not_forall] at this
    obtain ⟨c, hc, hn⟩ := this
    have hb : Fw.bytesEq s c = true := by simpa using hn
    rw [bytesEq_eq hb]
    simp only [nmT, List.mem_cons, List.not_mem_nil, or_false] at hc
    rcases hc with rfl | rfl | rfl | rfl | rfl | rfl | rfl | rfl | rfl | rfl | rfl | rfl | rfl | rfl | rfl | rfl | rfl | rfl | rfl | rfl | rfl | rfl | rfl | rfl | rfl | rfl | rfl | rfl | rfl | rfl | rfl | rfl | rfl | rfl
    · exact l7_abs hW n
    · exact l7_add hW n
    · exact l7_and hW n
    · exact l7_append hW n
    · exact l7_chunk hW n
    · exact l7_diagonal hW n
    · exact l7_div hW n
    · exact l7_drop hW n
    · exact l7_eq hW n
    · exact l7_fill hW n
    · exact l7_ge hW n
    · exact l7_gt hW n
    · exact l7_index hW n
    · exact l7_iota hW n
    · exact l7_le hW n
    · exact l7_lt hW n
    · exact l7_max hW n
    · exact l7_min hW n
    · exact l7_mod hW n
    · exact l7_mul hW n
    · exact l7_ne hW n
    · exact l7_neg hW n
    · exact l7_not hW n
    · exact l7_or hW n
    · exact l7_reverse hW n
    · exact l7_select hW n
    · exact l7_sign hW n
    · exact l7_sub hW n
    · exact l7_take hW n
    · exact l7_toint hW n
    · exact l7_transpose hW n
    · exact l7_update hW n
    · exact l7_windows hW n
    · exact l7_xor hW n
end Fw.Tz
