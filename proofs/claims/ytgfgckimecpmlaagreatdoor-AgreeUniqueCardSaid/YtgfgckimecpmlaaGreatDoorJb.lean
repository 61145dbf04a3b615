/- A part of the proof. -/
import Derived.Test.YtgfgckimecpmlaaGreatDoorCards
import Derived.ProofKit

set_option maxRecDepth 100000
namespace Fw.Tz
open Go Go.Proofs Go.RowKit
open Go.Proofs.YtgfgckimecpmlaaGreatDoor
theorem Tj5_2 : (Rows.agreeUniqueRow.unfollowed == Tryz.prog.unfollowed 5) = true := by kernel_rfl
theorem Tj5_3 : (Rows.agreeUniqueRow.recurses == Tryz.prog.recurses 5) = true := by kernel_rfl
end Fw.Tz
