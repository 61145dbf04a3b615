import Derived.Test.YtlgnmcfckgokdaaGreatDoorSf
/-
  PrimsSchemes: the runs.
-/
set_option maxRecDepth 1000000
namespace Fw.Tz
open Go Go.Proofs Fw.X
theorem t4_18 (W : World) : ok4 W 18 = true := by kernel_rfl
theorem t4_19 (W : World) : ok4 W 19 = true := by kernel_rfl
theorem t4_20 (W : World) : ok4 W 20 = true := by kernel_rfl
theorem t4_21 (W : World) : ok4 W 21 = true := by kernel_rfl
theorem t4_22 (W : World) : ok4 W 22 = true := by kernel_rfl
theorem t4_23 (W : World) : ok4 W 23 = true := by kernel_rfl
theorem t4_24 (W : World) : ok4 W 24 = true := by kernel_rfl
theorem t4_25 (W : World) : ok4 W 25 = true := by kernel_rfl
theorem t4_26 (W : World) : ok4 W 26 = true := by kernel_rfl
theorem t4_27 (W : World) : ok4 W 27 = true := by kernel_rfl
theorem t4_28 (W : World) : ok4 W 28 = true := by kernel_rfl
theorem t4_29 (W : World) : ok4 W 29 = true := by kernel_rfl
theorem t4_30 (W : World) : ok4 W 30 = true := by kernel_rfl
theorem t4_31 (W : World) : ok4 W 31 = true := by kernel_rfl
theorem t4_32 (W : World) : ok4 W 32 = true := by kernel_rfl
theorem t4_33 (W : World) : ok4 W 33 = true := by kernel_rfl
end Fw.Tz
