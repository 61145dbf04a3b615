/- A part of the proof. -/
import Derived.Test.YtgfgckimecpmlaaGreatDoorCards
import Derived.ProofKit

set_option maxRecDepth 100000
namespace Fw.Tz
open Go Go.Proofs Go.RowKit
open Go.Proofs.YtgfgckimecpmlaaGreatDoor
theorem Tj3_2 : (Rows.agreeFrameRow.unfollowed == Tryz.prog.unfollowed 3) = true := by kernel_rfl
theorem Tj3_3 : (Rows.agreeFrameRow.recurses == Tryz.prog.recurses 3) = true := by kernel_rfl
end Fw.Tz
