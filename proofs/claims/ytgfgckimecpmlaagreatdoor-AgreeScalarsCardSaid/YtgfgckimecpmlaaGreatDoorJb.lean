/- A part of the proof. -/
import Derived.Test.YtgfgckimecpmlaaGreatDoorCards
import Derived.ProofKit

set_option maxRecDepth 100000
namespace Fw.Tz
open Go Go.Proofs Go.RowKit
open Go.Proofs.YtgfgckimecpmlaaGreatDoor
theorem Tj7_2 : (Rows.agreeScalarsRow.unfollowed == Tryz.prog.unfollowed 7) = true := by kernel_rfl
theorem Tj7_3 : (Rows.agreeScalarsRow.recurses == Tryz.prog.recurses 7) = true := by kernel_rfl
end Fw.Tz
