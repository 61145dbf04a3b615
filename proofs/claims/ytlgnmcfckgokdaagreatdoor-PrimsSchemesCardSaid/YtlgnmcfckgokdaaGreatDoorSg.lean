import Derived.Test.YtlgnmcfckgokdaaGreatDoorSf
/-
  PrimsSchemes: the runs.
-/
set_option maxRecDepth 1000000
namespace Fw.Tz
open Go Go.Proofs Fw.X
theorem t4_0 (W : World) : ok4 W 0 = true := by kernel_rfl
theorem t4_1 (W : World) : ok4 W 1 = true := by kernel_rfl
theorem t4_2 (W : World) : ok4 W 2 = true := by kernel_rfl
theorem t4_3 (W : World) : ok4 W 3 = true := by kernel_rfl
theorem t4_5 (W : World) : ok4 W 5 = true := by kernel_rfl
theorem t4_6 (W : World) : ok4 W 6 = true := by kernel_rfl
theorem t4_7 (W : World) : ok4 W 7 = true := by kernel_rfl
theorem t4_8 (W : World) : ok4 W 8 = true := by kernel_rfl
theorem t4_9 (W : World) : ok4 W 9 = true := by kernel_rfl
theorem t4_10 (W : World) : ok4 W 10 = true := by kernel_rfl
theorem t4_11 (W : World) : ok4 W 11 = true := by kernel_rfl
theorem t4_12 (W : World) : ok4 W 12 = true := by kernel_rfl
theorem t4_13 (W : World) : ok4 W 13 = true := by kernel_rfl
theorem t4_14 (W : World) : ok4 W 14 = true := by kernel_rfl
theorem t4_15 (W : World) : ok4 W 15 = true := by kernel_rfl
theorem t4_16 (W : World) : ok4 W 16 = true := by kernel_rfl
theorem t4_17 (W : World) : ok4 W 17 = true := by kernel_rfl
end Fw.Tz
