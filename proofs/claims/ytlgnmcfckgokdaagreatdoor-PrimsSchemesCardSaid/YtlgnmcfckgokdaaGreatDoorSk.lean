import Derived.Test.YtlgnmcfckgokdaaGreatDoorSf
/-
  PrimsSchemes: the runs.
-/
set_option maxRecDepth 1000000
namespace Fw.Tz
open Go Go.Proofs Fw.X
theorem t4c_32 (W : World) : ok4c W 32 = true := by kernel_rfl
theorem t4c_33 (W : World) : ok4c W 33 = true := by kernel_rfl
theorem t4c_34 (W : World) : ok4c W 34 = true := by kernel_rfl
theorem t4c_35 (W : World) : ok4c W 35 = true := by kernel_rfl
theorem t4c_36 (W : World) : ok4c W 36 = true := by kernel_rfl
theorem t4c_37 (W : World) : ok4c W 37 = true := by kernel_rfl
theorem t4c_38 (W : World) : ok4c W 38 = true := by kernel_rfl
theorem t4c_39 (W : World) : ok4c W 39 = true := by kernel_rfl
theorem t4c_40 (W : World) : ok4c W 40 = true := by kernel_rfl
theorem t4c_41 (W : World) : ok4c W 41 = true := by kernel_rfl
theorem t4c_42 (W : World) : ok4c W 42 = true := by kernel_rfl
theorem t4c_43 (W : World) : ok4c W 43 = true := by kernel_rfl
theorem t4c_44 (W : World) : ok4c W 44 = true := by kernel_rfl
theorem t4c_45 (W : World) : ok4c W 45 = true := by kernel_rfl
theorem t4c_46 (W : World) : ok4c W 46 = true := by kernel_rfl
theorem t4c_47 (W : World) : ok4c W 47 = true := by kernel_rfl
end Fw.Tz
