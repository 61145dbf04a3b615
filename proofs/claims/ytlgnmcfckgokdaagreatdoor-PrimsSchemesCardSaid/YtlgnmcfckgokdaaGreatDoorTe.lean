import Derived.Test.YtlgnmcfckgokdaaGreatDoorSg
import Derived.Test.YtlgnmcfckgokdaaGreatDoorSh
import Derived.Test.YtlgnmcfckgokdaaGreatDoorSi
import Derived.Test.YtlgnmcfckgokdaaGreatDoorSj
import Derived.Test.YtlgnmcfckgokdaaGreatDoorSk
import Derived.Test.YtlgnmcfckgokdaaGreatDoorSl
/-
  PrimsSchemes: the call returns true.
-/
set_option linter.unusedSimpArgs false
set_option maxRecDepth 1000000
set_option maxHeartbeats 1000000
namespace Fw.Tz
open Go Go.Proofs Fw.X
variable {W : World}
theorem ok4_all (W : World) : ∀ i, i < 34 → i ≠ 4 → ok4 W i = true
  | 0, _, _ => t4_0 W
  | 1, _, _ => t4_1 W
  | 2, _, _ => t4_2 W
  | 3, _, _ => t4_3 W
  | 5, _, _ => t4_5 W
  | 6, _, _ => t4_6 W
  | 7, _, _ => t4_7 W
  | 8, _, _ => t4_8 W
  | 9, _, _ => t4_9 W
  | 10, _, _ => t4_10 W
  | 11, _, _ => t4_11 W
  | 12, _, _ => t4_12 W
  | 13, _, _ => t4_13 W
  | 14, _, _ => t4_14 W
  | 15, _, _ => t4_15 W
  | 16, _, _ => t4_16 W
  | 17, _, _ => t4_17 W
  | 18, _, _ => t4_18 W
  | 19, _, _ => t4_19 W
  | 20, _, _ => t4_20 W
  | 21, _, _ => t4_21 W
  | 22, _, _ => t4_22 W
  | 23, _, _ => t4_23 W
  | 24, _, _ => t4_24 W
  | 25, _, _ => t4_25 W
  | 26, _, _ => t4_26 W
  | 27, _, _ => t4_27 W
  | 28, _, _ => t4_28 W
  | 29, _, _ => t4_29 W
  | 30, _, _ => t4_30 W
  | 31, _, _ => t4_31 W
  | 32, _, _ => t4_32 W
  | 33, _, _ => t4_33 W
  | 4, _, h => absurd rfl h
  | n + 34, h, _ => by omega
theorem ok4c_all (W : World) : ∀ j, j < 64 → ok4c W j = true
  | 0, _ => t4c_0 W
  | 1, _ => t4c_1 W
  | 2, _ => t4c_2 W
  | 3, _ => t4c_3 W
  | 4, _ => t4c_4 W
  | 5, _ => t4c_5 W
  | 6, _ => t4c_6 W
  | 7, _ => t4c_7 W
  | 8, _ => t4c_8 W
  | 9, _ => t4c_9 W
  | 10, _ => t4c_10 W
  | 11, _ => t4c_11 W
  | 12, _ => t4c_12 W
  | 13, _ => t4c_13 W
  | 14, _ => t4c_14 W
  | 15, _ => t4c_15 W
  | 16, _ => t4c_16 W
  | 17, _ => t4c_17 W
  | 18, _ => t4c_18 W
  | 19, _ => t4c_19 W
  | 20, _ => t4c_20 W
  | 21, _ => t4c_21 W
  | 22, _ => t4c_22 W
  | 23, _ => t4c_23 W
  | 24, _ => t4c_24 W
  | 25, _ => t4c_25 W
  | 26, _ => t4c_26 W
  | 27, _ => t4c_27 W
  | 28, _ => t4c_28 W
  | 29, _ => t4c_29 W
  | 30, _ => t4c_30 W
  | 31, _ => t4c_31 W
  | 32, _ => t4c_32 W
  | 33, _ => t4c_33 W
  | 34, _ => t4c_34 W
  | 35, _ => t4c_35 W
  | 36, _ => t4c_36 W
  | 37, _ => t4c_37 W
  | 38, _ => t4c_38 W
  | 39, _ => t4c_39 W
  | 40, _ => t4c_40 W
  | 41, _ => t4c_41 W
  | 42, _ => t4c_42 W
  | 43, _ => t4c_43 W
  | 44, _ => t4c_44 W
  | 45, _ => t4c_45 W
  | 46, _ => t4c_46 W
  | 47, _ => t4c_47 W
  | 48, _ => t4c_48 W
  | 49, _ => t4c_49 W
  | 50, _ => t4c_50 W
  | 51, _ => t4c_51 W
  | 52, _ => t4c_52 W
  | 53, _ => t4c_53 W
  | 54, _ => t4c_54 W
  | 55, _ => t4c_55 W
  | 56, _ => t4c_56 W
  | 57, _ => t4c_57 W
  | 58, _ => t4c_58 W
  | 59, _ => t4c_59 W
  | 60, _ => t4c_60 W
  | 61, _ => t4c_61 W
  | 62, _ => t4c_62 W
  | 63, _ => t4c_63 W
  | n + 64, h => by omega

theorem len16 (H : Heap) : lenV H .slice v16 = some 34 := rfl
theorem u8_wrap {a : Nat} (h : a < 256) : IntKind.i64.wrap (a : Int) = (a : Int) := by rw [IntKind.wrap_i64]; omega
theorem tmodN (a m : Nat) : (a : Int).tmod (m : Int) = ((a % m : Nat) : Int) := by
  rw [Int.tmod_eq_emod_of_nonneg (by omega)]; rfl
theorem mod34 (a : Nat) : (a : Int).tmod 34 = ((a % 34 : Nat) : Int) := tmodN a 34
theorem mod64 (a : Nat) : (a : Int).tmod 64 = ((a % 64 : Nat) : Int) := tmodN a 64
theorem add1 {a : Nat} (h : a < 256) : IntKind.i64.wrap (1 + (a : Int)) = ((a + 1 : Nat) : Int) := by rw [IntKind.wrap_i64]; omega

theorem law4 (hW : W0 W) (a c : Nat) (ha : a < 256) (hc : c < 256) : PC P (gl W) 4 [.d (.int .u8 (a : Int)), .d (.int .u8 (c : Int))] (.d (.bool true)) := by
  refine PC.body is4 ca4 (by simp [f4]) rfl ?_
  show WC P (gl W) (.seq (.region f4.r0) (.seq (.seq (.region f4.r1) (.cond (.t 19) (.seq (.region f4.r2) .ret) .skip)) (.seq (.region f4.r3) (.seq (.region f4.r4) post4)))) ⟨177, [(0, .d (.int .u8 (a : Int))), (1, .d (.int .u8 (c : Int)))], []⟩ _
  refine WC.seq (WC.runKX hW (exS_ok hW) (kt := ktS) (own := []) [0, 1] (vals := [.d (.int .u8 (a : Int)), .d (.int .u8 (c : Int))]) (H' := []) (by decide) (by kernel_rfl) (by kernel_rfl) ?_)
  refine WC.seq (WC.runKX hW (exS_ok hW) (kt := ktS) (own := []) [0, 1] (vals := [.d (.int .u8 (a : Int)), .d (.int .u8 (c : Int))]) (H' := []) (by decide) (by kernel_rfl) (by kernel_rfl) ?_)
  refine WC.seq (WC.runKX hW (exS_ok hW) (kt := ktS) (own := []) [0, 1, 5] (vals := [.d (.int .u8 (a : Int)), .d (.int .u8 (c : Int)), v16]) (H' := []) (by decide) (by kernel_rfl) (by kernel_rfl) ?_)
  change WC P (gl W) _ ⟨177, [(0, .d (.int .u8 (a : Int))), (1, .d (.int .u8 (c : Int))), (5, v16)], []⟩ _
  refine WC.seq (WC.region (WO.preN 6 (own := []) noC_ok (by simp [f4.r4, len16, u8_wrap ha, mod34, runO, asData, guardB, eff, evo, get_cons, put_cons, put_nil, stput_some, stput_none, happ, binD, binS, binI, eqV, unV]; rfl) ?_))
  have hi : a % 34 < 34 := Nat.mod_lt _ (by omega)
  rw [show ((a : Int) % 34) = ((a % 34 : Nat) : Int) by omega]
  by_cases h4 : a % 34 = 4
  · rw [h4]
    refine WO.keep [1, 22, 27] ?_
    change WO P (gl W) _ ⟨177, [(1, .d (.int .u8 (c : Int))), (22, v16), (27, .d (.int .i64 (Int.ofNat 4)))], []⟩ _
    refine WO.runWX hW (exS_ok hW) (kt := ktS) (own := []) [1, 6, 7] (vals := [.d (.int .u8 (c : Int)), .ptr 0 10 0, .d (.bool true)]) (H' := H4) (by decide) (by kernel_rfl) (by kernel_rfl) (fun tm' hw => WC.weak hw ?_)
    change WC P (gl W) post4 ⟨177, [(1, .d (.int .u8 (c : Int))), (6, .ptr 0 10 0), (7, .d (.bool true))], H4⟩ _
    unfold post4
    refine WC.seq (WC.runKX hW (exS_ok hW) (kt := ktS) (own := []) [1, 6] (vals := [.d (.int .u8 (c : Int)), .ptr 0 10 0]) (H' := H4) (by decide) (by kernel_rfl) (by kernel_rfl) ?_)
    refine WC.seq (WC.runKX hW (exS_ok hW) (kt := ktS) (own := []) [1, 6] (vals := [.d (.int .u8 (c : Int)), .ptr 0 10 0]) (H' := H4) (by decide) (by kernel_rfl) (by kernel_rfl) ?_)
    refine WC.seq (WC.seq (WC.runKX hW (exS_ok hW) (kt := ktS) (own := []) [1, 6, 36] (vals := [.d (.int .u8 (c : Int)), .ptr 0 10 0, .d (.bool true)]) (H' := H4) (by decide) (by kernel_rfl) (by kernel_rfl) ?_))
    refine WC.cond (t := true) rfl ?_
    change WC P (gl W) _ ⟨177, [(1, .d (.int .u8 (c : Int))), (6, .ptr 0 10 0), (36, .d (.bool true))], H4⟩ _
    refine WC.reg (own := []) (by simp [f4.r9, u8_wrap hc, mod64, add1 (show c % 64 < 256 by omega), runO, asData, guardB, eff, evo, get_cons, put_cons, put_nil, stput_some, stput_none, happ, binD, binS, binI, eqV, unV]; rfl) ?_
    rw [show IntKind.i64.wrap (1 + (c : Int) % 64) = ((c % 64 + 1 : Nat) : Int) by rw [IntKind.wrap_i64]; omega]
    refine WC.keep [6, 8] ?_
    change WC P (gl W) rest4 ⟨177, [(6, .ptr 0 10 0), (8, .d (.int .i64 (Int.ofNat (c % 64 + 1))))], H4⟩ _
    exact WC.runT hW (exS_ok hW) (by decide) (by kernel_rfl) (ok4c_all W (c % 64) (Nat.mod_lt _ (by omega)))
  · refine WO.keep [22, 27] ?_
    generalize a % 34 = i at hi h4
    change WO P (gl W) _ ⟨177, [(22, v16), (27, .d (.int .i64 (Int.ofNat i)))], []⟩ _
    exact WO.runT hW (exS_ok hW) (by decide) (by rfl) (ok4_all W i hi h4)
end Fw.Tz
