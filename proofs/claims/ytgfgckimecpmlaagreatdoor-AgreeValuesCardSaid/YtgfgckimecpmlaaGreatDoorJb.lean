/- A part of the proof. -/
import Derived.Test.YtgfgckimecpmlaaGreatDoorCards
import Derived.ProofKit

set_option maxRecDepth 100000
namespace Fw.Tz
open Go Go.Proofs Go.RowKit
open Go.Proofs.YtgfgckimecpmlaaGreatDoor
theorem Tj9_2 : (Rows.agreeValuesRow.unfollowed == Tryz.prog.unfollowed 9) = true := by kernel_rfl
theorem Tj9_3 : (Rows.agreeValuesRow.recurses == Tryz.prog.recurses 9) = true := by kernel_rfl
end Fw.Tz
