import Derived.Test.YtlgnmcfckgokdaaGreatDoorSf
/-
  PrimsSchemes: the runs.
-/
set_option maxRecDepth 1000000
namespace Fw.Tz
open Go Go.Proofs Fw.X
theorem t4c_16 (W : World) : ok4c W 16 = true := by kernel_rfl
theorem t4c_17 (W : World) : ok4c W 17 = true := by kernel_rfl
theorem t4c_18 (W : World) : ok4c W 18 = true := by kernel_rfl
theorem t4c_19 (W : World) : ok4c W 19 = true := by kernel_rfl
theorem t4c_20 (W : World) : ok4c W 20 = true := by kernel_rfl
theorem t4c_21 (W : World) : ok4c W 21 = true := by kernel_rfl
theorem t4c_22 (W : World) : ok4c W 22 = true := by kernel_rfl
theorem t4c_23 (W : World) : ok4c W 23 = true := by kernel_rfl
theorem t4c_24 (W : World) : ok4c W 24 = true := by kernel_rfl
theorem t4c_25 (W : World) : ok4c W 25 = true := by kernel_rfl
theorem t4c_26 (W : World) : ok4c W 26 = true := by kernel_rfl
theorem t4c_27 (W : World) : ok4c W 27 = true := by kernel_rfl
theorem t4c_28 (W : World) : ok4c W 28 = true := by kernel_rfl
theorem t4c_29 (W : World) : ok4c W 29 = true := by kernel_rfl
theorem t4c_30 (W : World) : ok4c W 30 = true := by kernel_rfl
theorem t4c_31 (W : World) : ok4c W 31 = true := by kernel_rfl
end Fw.Tz
