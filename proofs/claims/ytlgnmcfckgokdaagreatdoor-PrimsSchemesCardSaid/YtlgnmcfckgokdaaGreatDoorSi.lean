import Derived.Test.YtlgnmcfckgokdaaGreatDoorSf
/-
  PrimsSchemes: the runs.
-/
set_option maxRecDepth 1000000
namespace Fw.Tz
open Go Go.Proofs Fw.X
theorem t4c_0 (W : World) : ok4c W 0 = true := by kernel_rfl
theorem t4c_1 (W : World) : ok4c W 1 = true := by kernel_rfl
theorem t4c_2 (W : World) : ok4c W 2 = true := by kernel_rfl
theorem t4c_3 (W : World) : ok4c W 3 = true := by kernel_rfl
theorem t4c_4 (W : World) : ok4c W 4 = true := by kernel_rfl
theorem t4c_5 (W : World) : ok4c W 5 = true := by kernel_rfl
theorem t4c_6 (W : World) : ok4c W 6 = true := by kernel_rfl
theorem t4c_7 (W : World) : ok4c W 7 = true := by kernel_rfl
theorem t4c_8 (W : World) : ok4c W 8 = true := by kernel_rfl
theorem t4c_9 (W : World) : ok4c W 9 = true := by kernel_rfl
theorem t4c_10 (W : World) : ok4c W 10 = true := by kernel_rfl
theorem t4c_11 (W : World) : ok4c W 11 = true := by kernel_rfl
theorem t4c_12 (W : World) : ok4c W 12 = true := by kernel_rfl
theorem t4c_13 (W : World) : ok4c W 13 = true := by kernel_rfl
theorem t4c_14 (W : World) : ok4c W 14 = true := by kernel_rfl
theorem t4c_15 (W : World) : ok4c W 15 = true := by kernel_rfl
end Fw.Tz
