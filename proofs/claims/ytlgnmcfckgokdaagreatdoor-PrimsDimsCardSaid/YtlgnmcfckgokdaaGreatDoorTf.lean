/-
  The schemes of chunk.
-/
import Derived.Test.YtlgnmcfckgokdaaGreatDoorSe

set_option linter.unusedSimpArgs false
set_option maxRecDepth 1000000
set_option maxHeartbeats 4000000
namespace Fw.Tz
open Go Go.Proofs Fw.X
variable {W : World}
def scN (J : Int) : List V := [.d (.list [[.str [65], .str [], .list [[.int .i64 0, .list [[.str [110], .int .i64 J]]]]]]), .d (.str [65]), .d (.str []), .d (.list [[.int .i64 0, .list [[.str [110], .int .i64 1]]], [.int .i64 J, .list []]]), .d (.list [])]
theorem ch_0 (W : World) : pcX W ktS exS 40 18 [.d (.str [99, 104, 117, 110, 107]), .d (.int .i64 (Int.ofNat 1))] = some (.tuple [.agg (scN (Int.ofNat 1)), .d (.int .i64 0)]) := by kernel_rfl
theorem ch_1 (W : World) : pcX W ktS exS 40 18 [.d (.str [99, 104, 117, 110, 107]), .d (.int .i64 (Int.ofNat 2))] = some (.tuple [.agg (scN (Int.ofNat 2)), .d (.int .i64 0)]) := by kernel_rfl
theorem ch_2 (W : World) : pcX W ktS exS 40 18 [.d (.str [99, 104, 117, 110, 107]), .d (.int .i64 (Int.ofNat 3))] = some (.tuple [.agg (scN (Int.ofNat 3)), .d (.int .i64 0)]) := by kernel_rfl
theorem ch_3 (W : World) : pcX W ktS exS 40 18 [.d (.str [99, 104, 117, 110, 107]), .d (.int .i64 (Int.ofNat 4))] = some (.tuple [.agg (scN (Int.ofNat 4)), .d (.int .i64 0)]) := by kernel_rfl
theorem ch_4 (W : World) : pcX W ktS exS 40 18 [.d (.str [99, 104, 117, 110, 107]), .d (.int .i64 (Int.ofNat 5))] = some (.tuple [.agg (scN (Int.ofNat 5)), .d (.int .i64 0)]) := by kernel_rfl
theorem ch_5 (W : World) : pcX W ktS exS 40 18 [.d (.str [99, 104, 117, 110, 107]), .d (.int .i64 (Int.ofNat 6))] = some (.tuple [.agg (scN (Int.ofNat 6)), .d (.int .i64 0)]) := by kernel_rfl
theorem ch_6 (W : World) : pcX W ktS exS 40 18 [.d (.str [99, 104, 117, 110, 107]), .d (.int .i64 (Int.ofNat 7))] = some (.tuple [.agg (scN (Int.ofNat 7)), .d (.int .i64 0)]) := by kernel_rfl
theorem ch_7 (W : World) : pcX W ktS exS 40 18 [.d (.str [99, 104, 117, 110, 107]), .d (.int .i64 (Int.ofNat 8))] = some (.tuple [.agg (scN (Int.ofNat 8)), .d (.int .i64 0)]) := by kernel_rfl
theorem ch_8 (W : World) : pcX W ktS exS 40 18 [.d (.str [99, 104, 117, 110, 107]), .d (.int .i64 (Int.ofNat 9))] = some (.tuple [.agg (scN (Int.ofNat 9)), .d (.int .i64 0)]) := by kernel_rfl
theorem ch_9 (W : World) : pcX W ktS exS 40 18 [.d (.str [99, 104, 117, 110, 107]), .d (.int .i64 (Int.ofNat 10))] = some (.tuple [.agg (scN (Int.ofNat 10)), .d (.int .i64 0)]) := by kernel_rfl
theorem ch_10 (W : World) : pcX W ktS exS 40 18 [.d (.str [99, 104, 117, 110, 107]), .d (.int .i64 (Int.ofNat 11))] = some (.tuple [.agg (scN (Int.ofNat 11)), .d (.int .i64 0)]) := by kernel_rfl
theorem ch_11 (W : World) : pcX W ktS exS 40 18 [.d (.str [99, 104, 117, 110, 107]), .d (.int .i64 (Int.ofNat 12))] = some (.tuple [.agg (scN (Int.ofNat 12)), .d (.int .i64 0)]) := by kernel_rfl
theorem ch_12 (W : World) : pcX W ktS exS 40 18 [.d (.str [99, 104, 117, 110, 107]), .d (.int .i64 (Int.ofNat 13))] = some (.tuple [.agg (scN (Int.ofNat 13)), .d (.int .i64 0)]) := by kernel_rfl
theorem ch_13 (W : World) : pcX W ktS exS 40 18 [.d (.str [99, 104, 117, 110, 107]), .d (.int .i64 (Int.ofNat 14))] = some (.tuple [.agg (scN (Int.ofNat 14)), .d (.int .i64 0)]) := by kernel_rfl
theorem ch_14 (W : World) : pcX W ktS exS 40 18 [.d (.str [99, 104, 117, 110, 107]), .d (.int .i64 (Int.ofNat 15))] = some (.tuple [.agg (scN (Int.ofNat 15)), .d (.int .i64 0)]) := by kernel_rfl
theorem ch_15 (W : World) : pcX W ktS exS 40 18 [.d (.str [99, 104, 117, 110, 107]), .d (.int .i64 (Int.ofNat 16))] = some (.tuple [.agg (scN (Int.ofNat 16)), .d (.int .i64 0)]) := by kernel_rfl
theorem ch_16 (W : World) : pcX W ktS exS 40 18 [.d (.str [99, 104, 117, 110, 107]), .d (.int .i64 (Int.ofNat 17))] = some (.tuple [.agg (scN (Int.ofNat 17)), .d (.int .i64 0)]) := by kernel_rfl
theorem ch_17 (W : World) : pcX W ktS exS 40 18 [.d (.str [99, 104, 117, 110, 107]), .d (.int .i64 (Int.ofNat 18))] = some (.tuple [.agg (scN (Int.ofNat 18)), .d (.int .i64 0)]) := by kernel_rfl
theorem ch_18 (W : World) : pcX W ktS exS 40 18 [.d (.str [99, 104, 117, 110, 107]), .d (.int .i64 (Int.ofNat 19))] = some (.tuple [.agg (scN (Int.ofNat 19)), .d (.int .i64 0)]) := by kernel_rfl
theorem ch_19 (W : World) : pcX W ktS exS 40 18 [.d (.str [99, 104, 117, 110, 107]), .d (.int .i64 (Int.ofNat 20))] = some (.tuple [.agg (scN (Int.ofNat 20)), .d (.int .i64 0)]) := by kernel_rfl
theorem ch_20 (W : World) : pcX W ktS exS 40 18 [.d (.str [99, 104, 117, 110, 107]), .d (.int .i64 (Int.ofNat 21))] = some (.tuple [.agg (scN (Int.ofNat 21)), .d (.int .i64 0)]) := by kernel_rfl
theorem ch_21 (W : World) : pcX W ktS exS 40 18 [.d (.str [99, 104, 117, 110, 107]), .d (.int .i64 (Int.ofNat 22))] = some (.tuple [.agg (scN (Int.ofNat 22)), .d (.int .i64 0)]) := by kernel_rfl
theorem ch_22 (W : World) : pcX W ktS exS 40 18 [.d (.str [99, 104, 117, 110, 107]), .d (.int .i64 (Int.ofNat 23))] = some (.tuple [.agg (scN (Int.ofNat 23)), .d (.int .i64 0)]) := by kernel_rfl
theorem ch_23 (W : World) : pcX W ktS exS 40 18 [.d (.str [99, 104, 117, 110, 107]), .d (.int .i64 (Int.ofNat 24))] = some (.tuple [.agg (scN (Int.ofNat 24)), .d (.int .i64 0)]) := by kernel_rfl
theorem ch_24 (W : World) : pcX W ktS exS 40 18 [.d (.str [99, 104, 117, 110, 107]), .d (.int .i64 (Int.ofNat 25))] = some (.tuple [.agg (scN (Int.ofNat 25)), .d (.int .i64 0)]) := by kernel_rfl
theorem ch_25 (W : World) : pcX W ktS exS 40 18 [.d (.str [99, 104, 117, 110, 107]), .d (.int .i64 (Int.ofNat 26))] = some (.tuple [.agg (scN (Int.ofNat 26)), .d (.int .i64 0)]) := by kernel_rfl
theorem ch_26 (W : World) : pcX W ktS exS 40 18 [.d (.str [99, 104, 117, 110, 107]), .d (.int .i64 (Int.ofNat 27))] = some (.tuple [.agg (scN (Int.ofNat 27)), .d (.int .i64 0)]) := by kernel_rfl
theorem ch_27 (W : World) : pcX W ktS exS 40 18 [.d (.str [99, 104, 117, 110, 107]), .d (.int .i64 (Int.ofNat 28))] = some (.tuple [.agg (scN (Int.ofNat 28)), .d (.int .i64 0)]) := by kernel_rfl
theorem ch_28 (W : World) : pcX W ktS exS 40 18 [.d (.str [99, 104, 117, 110, 107]), .d (.int .i64 (Int.ofNat 29))] = some (.tuple [.agg (scN (Int.ofNat 29)), .d (.int .i64 0)]) := by kernel_rfl
theorem ch_29 (W : World) : pcX W ktS exS 40 18 [.d (.str [99, 104, 117, 110, 107]), .d (.int .i64 (Int.ofNat 30))] = some (.tuple [.agg (scN (Int.ofNat 30)), .d (.int .i64 0)]) := by kernel_rfl
theorem ch_30 (W : World) : pcX W ktS exS 40 18 [.d (.str [99, 104, 117, 110, 107]), .d (.int .i64 (Int.ofNat 31))] = some (.tuple [.agg (scN (Int.ofNat 31)), .d (.int .i64 0)]) := by kernel_rfl
theorem ch_31 (W : World) : pcX W ktS exS 40 18 [.d (.str [99, 104, 117, 110, 107]), .d (.int .i64 (Int.ofNat 32))] = some (.tuple [.agg (scN (Int.ofNat 32)), .d (.int .i64 0)]) := by kernel_rfl
theorem ch_32 (W : World) : pcX W ktS exS 40 18 [.d (.str [99, 104, 117, 110, 107]), .d (.int .i64 (Int.ofNat 33))] = some (.tuple [.agg (scN (Int.ofNat 33)), .d (.int .i64 0)]) := by kernel_rfl
theorem ch_33 (W : World) : pcX W ktS exS 40 18 [.d (.str [99, 104, 117, 110, 107]), .d (.int .i64 (Int.ofNat 34))] = some (.tuple [.agg (scN (Int.ofNat 34)), .d (.int .i64 0)]) := by kernel_rfl
theorem ch_34 (W : World) : pcX W ktS exS 40 18 [.d (.str [99, 104, 117, 110, 107]), .d (.int .i64 (Int.ofNat 35))] = some (.tuple [.agg (scN (Int.ofNat 35)), .d (.int .i64 0)]) := by kernel_rfl
theorem ch_35 (W : World) : pcX W ktS exS 40 18 [.d (.str [99, 104, 117, 110, 107]), .d (.int .i64 (Int.ofNat 36))] = some (.tuple [.agg (scN (Int.ofNat 36)), .d (.int .i64 0)]) := by kernel_rfl
theorem ch_36 (W : World) : pcX W ktS exS 40 18 [.d (.str [99, 104, 117, 110, 107]), .d (.int .i64 (Int.ofNat 37))] = some (.tuple [.agg (scN (Int.ofNat 37)), .d (.int .i64 0)]) := by kernel_rfl
theorem ch_37 (W : World) : pcX W ktS exS 40 18 [.d (.str [99, 104, 117, 110, 107]), .d (.int .i64 (Int.ofNat 38))] = some (.tuple [.agg (scN (Int.ofNat 38)), .d (.int .i64 0)]) := by kernel_rfl
theorem ch_38 (W : World) : pcX W ktS exS 40 18 [.d (.str [99, 104, 117, 110, 107]), .d (.int .i64 (Int.ofNat 39))] = some (.tuple [.agg (scN (Int.ofNat 39)), .d (.int .i64 0)]) := by kernel_rfl
theorem ch_39 (W : World) : pcX W ktS exS 40 18 [.d (.str [99, 104, 117, 110, 107]), .d (.int .i64 (Int.ofNat 40))] = some (.tuple [.agg (scN (Int.ofNat 40)), .d (.int .i64 0)]) := by kernel_rfl
theorem ch_40 (W : World) : pcX W ktS exS 40 18 [.d (.str [99, 104, 117, 110, 107]), .d (.int .i64 (Int.ofNat 41))] = some (.tuple [.agg (scN (Int.ofNat 41)), .d (.int .i64 0)]) := by kernel_rfl
theorem ch_41 (W : World) : pcX W ktS exS 40 18 [.d (.str [99, 104, 117, 110, 107]), .d (.int .i64 (Int.ofNat 42))] = some (.tuple [.agg (scN (Int.ofNat 42)), .d (.int .i64 0)]) := by kernel_rfl
theorem ch_42 (W : World) : pcX W ktS exS 40 18 [.d (.str [99, 104, 117, 110, 107]), .d (.int .i64 (Int.ofNat 43))] = some (.tuple [.agg (scN (Int.ofNat 43)), .d (.int .i64 0)]) := by kernel_rfl
theorem ch_43 (W : World) : pcX W ktS exS 40 18 [.d (.str [99, 104, 117, 110, 107]), .d (.int .i64 (Int.ofNat 44))] = some (.tuple [.agg (scN (Int.ofNat 44)), .d (.int .i64 0)]) := by kernel_rfl
theorem ch_44 (W : World) : pcX W ktS exS 40 18 [.d (.str [99, 104, 117, 110, 107]), .d (.int .i64 (Int.ofNat 45))] = some (.tuple [.agg (scN (Int.ofNat 45)), .d (.int .i64 0)]) := by kernel_rfl
theorem ch_45 (W : World) : pcX W ktS exS 40 18 [.d (.str [99, 104, 117, 110, 107]), .d (.int .i64 (Int.ofNat 46))] = some (.tuple [.agg (scN (Int.ofNat 46)), .d (.int .i64 0)]) := by kernel_rfl
theorem ch_46 (W : World) : pcX W ktS exS 40 18 [.d (.str [99, 104, 117, 110, 107]), .d (.int .i64 (Int.ofNat 47))] = some (.tuple [.agg (scN (Int.ofNat 47)), .d (.int .i64 0)]) := by kernel_rfl
theorem ch_47 (W : World) : pcX W ktS exS 40 18 [.d (.str [99, 104, 117, 110, 107]), .d (.int .i64 (Int.ofNat 48))] = some (.tuple [.agg (scN (Int.ofNat 48)), .d (.int .i64 0)]) := by kernel_rfl
theorem ch_48 (W : World) : pcX W ktS exS 40 18 [.d (.str [99, 104, 117, 110, 107]), .d (.int .i64 (Int.ofNat 49))] = some (.tuple [.agg (scN (Int.ofNat 49)), .d (.int .i64 0)]) := by kernel_rfl
theorem ch_49 (W : World) : pcX W ktS exS 40 18 [.d (.str [99, 104, 117, 110, 107]), .d (.int .i64 (Int.ofNat 50))] = some (.tuple [.agg (scN (Int.ofNat 50)), .d (.int .i64 0)]) := by kernel_rfl
theorem ch_50 (W : World) : pcX W ktS exS 40 18 [.d (.str [99, 104, 117, 110, 107]), .d (.int .i64 (Int.ofNat 51))] = some (.tuple [.agg (scN (Int.ofNat 51)), .d (.int .i64 0)]) := by kernel_rfl
theorem ch_51 (W : World) : pcX W ktS exS 40 18 [.d (.str [99, 104, 117, 110, 107]), .d (.int .i64 (Int.ofNat 52))] = some (.tuple [.agg (scN (Int.ofNat 52)), .d (.int .i64 0)]) := by kernel_rfl
theorem ch_52 (W : World) : pcX W ktS exS 40 18 [.d (.str [99, 104, 117, 110, 107]), .d (.int .i64 (Int.ofNat 53))] = some (.tuple [.agg (scN (Int.ofNat 53)), .d (.int .i64 0)]) := by kernel_rfl
theorem ch_53 (W : World) : pcX W ktS exS 40 18 [.d (.str [99, 104, 117, 110, 107]), .d (.int .i64 (Int.ofNat 54))] = some (.tuple [.agg (scN (Int.ofNat 54)), .d (.int .i64 0)]) := by kernel_rfl
theorem ch_54 (W : World) : pcX W ktS exS 40 18 [.d (.str [99, 104, 117, 110, 107]), .d (.int .i64 (Int.ofNat 55))] = some (.tuple [.agg (scN (Int.ofNat 55)), .d (.int .i64 0)]) := by kernel_rfl
theorem ch_55 (W : World) : pcX W ktS exS 40 18 [.d (.str [99, 104, 117, 110, 107]), .d (.int .i64 (Int.ofNat 56))] = some (.tuple [.agg (scN (Int.ofNat 56)), .d (.int .i64 0)]) := by kernel_rfl
theorem ch_56 (W : World) : pcX W ktS exS 40 18 [.d (.str [99, 104, 117, 110, 107]), .d (.int .i64 (Int.ofNat 57))] = some (.tuple [.agg (scN (Int.ofNat 57)), .d (.int .i64 0)]) := by kernel_rfl
theorem ch_57 (W : World) : pcX W ktS exS 40 18 [.d (.str [99, 104, 117, 110, 107]), .d (.int .i64 (Int.ofNat 58))] = some (.tuple [.agg (scN (Int.ofNat 58)), .d (.int .i64 0)]) := by kernel_rfl
theorem ch_58 (W : World) : pcX W ktS exS 40 18 [.d (.str [99, 104, 117, 110, 107]), .d (.int .i64 (Int.ofNat 59))] = some (.tuple [.agg (scN (Int.ofNat 59)), .d (.int .i64 0)]) := by kernel_rfl
theorem ch_59 (W : World) : pcX W ktS exS 40 18 [.d (.str [99, 104, 117, 110, 107]), .d (.int .i64 (Int.ofNat 60))] = some (.tuple [.agg (scN (Int.ofNat 60)), .d (.int .i64 0)]) := by kernel_rfl
theorem ch_60 (W : World) : pcX W ktS exS 40 18 [.d (.str [99, 104, 117, 110, 107]), .d (.int .i64 (Int.ofNat 61))] = some (.tuple [.agg (scN (Int.ofNat 61)), .d (.int .i64 0)]) := by kernel_rfl
theorem ch_61 (W : World) : pcX W ktS exS 40 18 [.d (.str [99, 104, 117, 110, 107]), .d (.int .i64 (Int.ofNat 62))] = some (.tuple [.agg (scN (Int.ofNat 62)), .d (.int .i64 0)]) := by kernel_rfl
theorem ch_62 (W : World) : pcX W ktS exS 40 18 [.d (.str [99, 104, 117, 110, 107]), .d (.int .i64 (Int.ofNat 63))] = some (.tuple [.agg (scN (Int.ofNat 63)), .d (.int .i64 0)]) := by kernel_rfl
theorem ch_63 (W : World) : pcX W ktS exS 40 18 [.d (.str [99, 104, 117, 110, 107]), .d (.int .i64 (Int.ofNat 64))] = some (.tuple [.agg (scN (Int.ofNat 64)), .d (.int .i64 0)]) := by kernel_rfl
theorem chAll (hW : W0 W) : ∀ j, 0 < j → j < 65 → PC P (gl W) 18 [.d (.str [99, 104, 117, 110, 107]), .d (.int .i64 (Int.ofNat j))] (.tuple [.agg (scN (Int.ofNat j)), .d (.int .i64 0)])
  | 1, _, _ => pcX_ok hW (exS_ok hW) 40 _ _ _ (ch_0 W)
  | 2, _, _ => pcX_ok hW (exS_ok hW) 40 _ _ _ (ch_1 W)
  | 3, _, _ => pcX_ok hW (exS_ok hW) 40 _ _ _ (ch_2 W)
  | 4, _, _ => pcX_ok hW (exS_ok hW) 40 _ _ _ (ch_3 W)
  | 5, _, _ => pcX_ok hW (exS_ok hW) 40 _ _ _ (ch_4 W)
  | 6, _, _ => pcX_ok hW (exS_ok hW) 40 _ _ _ (ch_5 W)
  | 7, _, _ => pcX_ok hW (exS_ok hW) 40 _ _ _ (ch_6 W)
  | 8, _, _ => pcX_ok hW (exS_ok hW) 40 _ _ _ (ch_7 W)
  | 9, _, _ => pcX_ok hW (exS_ok hW) 40 _ _ _ (ch_8 W)
  | 10, _, _ => pcX_ok hW (exS_ok hW) 40 _ _ _ (ch_9 W)
  | 11, _, _ => pcX_ok hW (exS_ok hW) 40 _ _ _ (ch_10 W)
  | 12, _, _ => pcX_ok hW (exS_ok hW) 40 _ _ _ (ch_11 W)
  | 13, _, _ => pcX_ok hW (exS_ok hW) 40 _ _ _ (ch_12 W)
  | 14, _, _ => pcX_ok hW (exS_ok hW) 40 _ _ _ (ch_13 W)
  | 15, _, _ => pcX_ok hW (exS_ok hW) 40 _ _ _ (ch_14 W)
  | 16, _, _ => pcX_ok hW (exS_ok hW) 40 _ _ _ (ch_15 W)
  | 17, _, _ => pcX_ok hW (exS_ok hW) 40 _ _ _ (ch_16 W)
  | 18, _, _ => pcX_ok hW (exS_ok hW) 40 _ _ _ (ch_17 W)
  | 19, _, _ => pcX_ok hW (exS_ok hW) 40 _ _ _ (ch_18 W)
  | 20, _, _ => pcX_ok hW (exS_ok hW) 40 _ _ _ (ch_19 W)
  | 21, _, _ => pcX_ok hW (exS_ok hW) 40 _ _ _ (ch_20 W)
  | 22, _, _ => pcX_ok hW (exS_ok hW) 40 _ _ _ (ch_21 W)
  | 23, _, _ => pcX_ok hW (exS_ok hW) 40 _ _ _ (ch_22 W)
  | 24, _, _ => pcX_ok hW (exS_ok hW) 40 _ _ _ (ch_23 W)
  | 25, _, _ => pcX_ok hW (exS_ok hW) 40 _ _ _ (ch_24 W)
  | 26, _, _ => pcX_ok hW (exS_ok hW) 40 _ _ _ (ch_25 W)
  | 27, _, _ => pcX_ok hW (exS_ok hW) 40 _ _ _ (ch_26 W)
  | 28, _, _ => pcX_ok hW (exS_ok hW) 40 _ _ _ (ch_27 W)
  | 29, _, _ => pcX_ok hW (exS_ok hW) 40 _ _ _ (ch_28 W)
  | 30, _, _ => pcX_ok hW (exS_ok hW) 40 _ _ _ (ch_29 W)
  | 31, _, _ => pcX_ok hW (exS_ok hW) 40 _ _ _ (ch_30 W)
  | 32, _, _ => pcX_ok hW (exS_ok hW) 40 _ _ _ (ch_31 W)
  | 33, _, _ => pcX_ok hW (exS_ok hW) 40 _ _ _ (ch_32 W)
  | 34, _, _ => pcX_ok hW (exS_ok hW) 40 _ _ _ (ch_33 W)
  | 35, _, _ => pcX_ok hW (exS_ok hW) 40 _ _ _ (ch_34 W)
  | 36, _, _ => pcX_ok hW (exS_ok hW) 40 _ _ _ (ch_35 W)
  | 37, _, _ => pcX_ok hW (exS_ok hW) 40 _ _ _ (ch_36 W)
  | 38, _, _ => pcX_ok hW (exS_ok hW) 40 _ _ _ (ch_37 W)
  | 39, _, _ => pcX_ok hW (exS_ok hW) 40 _ _ _ (ch_38 W)
  | 40, _, _ => pcX_ok hW (exS_ok hW) 40 _ _ _ (ch_39 W)
  | 41, _, _ => pcX_ok hW (exS_ok hW) 40 _ _ _ (ch_40 W)
  | 42, _, _ => pcX_ok hW (exS_ok hW) 40 _ _ _ (ch_41 W)
  | 43, _, _ => pcX_ok hW (exS_ok hW) 40 _ _ _ (ch_42 W)
  | 44, _, _ => pcX_ok hW (exS_ok hW) 40 _ _ _ (ch_43 W)
  | 45, _, _ => pcX_ok hW (exS_ok hW) 40 _ _ _ (ch_44 W)
  | 46, _, _ => pcX_ok hW (exS_ok hW) 40 _ _ _ (ch_45 W)
  | 47, _, _ => pcX_ok hW (exS_ok hW) 40 _ _ _ (ch_46 W)
  | 48, _, _ => pcX_ok hW (exS_ok hW) 40 _ _ _ (ch_47 W)
  | 49, _, _ => pcX_ok hW (exS_ok hW) 40 _ _ _ (ch_48 W)
  | 50, _, _ => pcX_ok hW (exS_ok hW) 40 _ _ _ (ch_49 W)
  | 51, _, _ => pcX_ok hW (exS_ok hW) 40 _ _ _ (ch_50 W)
  | 52, _, _ => pcX_ok hW (exS_ok hW) 40 _ _ _ (ch_51 W)
  | 53, _, _ => pcX_ok hW (exS_ok hW) 40 _ _ _ (ch_52 W)
  | 54, _, _ => pcX_ok hW (exS_ok hW) 40 _ _ _ (ch_53 W)
  | 55, _, _ => pcX_ok hW (exS_ok hW) 40 _ _ _ (ch_54 W)
  | 56, _, _ => pcX_ok hW (exS_ok hW) 40 _ _ _ (ch_55 W)
  | 57, _, _ => pcX_ok hW (exS_ok hW) 40 _ _ _ (ch_56 W)
  | 58, _, _ => pcX_ok hW (exS_ok hW) 40 _ _ _ (ch_57 W)
  | 59, _, _ => pcX_ok hW (exS_ok hW) 40 _ _ _ (ch_58 W)
  | 60, _, _ => pcX_ok hW (exS_ok hW) 40 _ _ _ (ch_59 W)
  | 61, _, _ => pcX_ok hW (exS_ok hW) 40 _ _ _ (ch_60 W)
  | 62, _, _ => pcX_ok hW (exS_ok hW) 40 _ _ _ (ch_61 W)
  | 63, _, _ => pcX_ok hW (exS_ok hW) 40 _ _ _ (ch_62 W)
  | 64, _, _ => pcX_ok hW (exS_ok hW) 40 _ _ _ (ch_63 W)
  | 0, h, _ => absurd h (by omega)
  | n + 65, _, h => absurd h (by omega)
end Fw.Tz
