/- A part of the proof. -/
import Derived.Test.YtgfgckimecpmlaaGreatDoorCards
import Derived.ProofKit

set_option maxRecDepth 100000
namespace Fw.Tz
open Go Go.Proofs Go.RowKit
open Go.Proofs.YtgfgckimecpmlaaGreatDoor
theorem Tj8_2 : (Rows.agreeDimsRow.unfollowed == Tryz.prog.unfollowed 8) = true := by kernel_rfl
theorem Tj8_3 : (Rows.agreeDimsRow.recurses == Tryz.prog.recurses 8) = true := by kernel_rfl
end Fw.Tz
