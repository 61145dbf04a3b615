import Derived.Test.YtlgnmcfckgokdaaGreatDoorSf
/-
  PrimsSchemes: the runs.
-/
set_option maxRecDepth 1000000
namespace Fw.Tz
open Go Go.Proofs Fw.X
theorem t4c_48 (W : World) : ok4c W 48 = true := by kernel_rfl
theorem t4c_49 (W : World) : ok4c W 49 = true := by kernel_rfl
theorem t4c_50 (W : World) : ok4c W 50 = true := by kernel_rfl
theorem t4c_51 (W : World) : ok4c W 51 = true := by kernel_rfl
theorem t4c_52 (W : World) : ok4c W 52 = true := by kernel_rfl
theorem t4c_53 (W : World) : ok4c W 53 = true := by kernel_rfl
theorem t4c_54 (W : World) : ok4c W 54 = true := by kernel_rfl
theorem t4c_55 (W : World) : ok4c W 55 = true := by kernel_rfl
theorem t4c_56 (W : World) : ok4c W 56 = true := by kernel_rfl
theorem t4c_57 (W : World) : ok4c W 57 = true := by kernel_rfl
theorem t4c_58 (W : World) : ok4c W 58 = true := by kernel_rfl
theorem t4c_59 (W : World) : ok4c W 59 = true := by kernel_rfl
theorem t4c_60 (W : World) : ok4c W 60 = true := by kernel_rfl
theorem t4c_61 (W : World) : ok4c W 61 = true := by kernel_rfl
theorem t4c_62 (W : World) : ok4c W 62 = true := by kernel_rfl
theorem t4c_63 (W : World) : ok4c W 63 = true := by kernel_rfl
end Fw.Tz
