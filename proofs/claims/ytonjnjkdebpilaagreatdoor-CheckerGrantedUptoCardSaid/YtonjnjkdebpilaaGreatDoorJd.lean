/- A part of the proof. -/
import Derived.Test.YtonjnjkdebpilaaGreatDoorCards
import Derived.ProofKit

set_option maxRecDepth 100000
namespace Fw.Tz
open Go Go.Proofs Go.RowKit
open Go.Proofs.YtonjnjkdebpilaaGreatDoor
theorem jx1 : laidOutB Tryz.prog = true := by kernel_rfl
theorem jx2 : mapsRowed Tryz.prog = true := by kernel_rfl
end Fw.Tz
