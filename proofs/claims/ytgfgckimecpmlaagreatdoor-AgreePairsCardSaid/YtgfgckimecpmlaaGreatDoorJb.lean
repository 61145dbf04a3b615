/- A part of the proof. -/
import Derived.Test.YtgfgckimecpmlaaGreatDoorCards
import Derived.ProofKit

set_option maxRecDepth 100000
namespace Fw.Tz
open Go Go.Proofs Go.RowKit
open Go.Proofs.YtgfgckimecpmlaaGreatDoor
theorem Tj4_2 : (Rows.agreePairsRow.unfollowed == Tryz.prog.unfollowed 4) = true := by kernel_rfl
theorem Tj4_3 : (Rows.agreePairsRow.recurses == Tryz.prog.recurses 4) = true := by kernel_rfl
end Fw.Tz
