/- A part of the proof. -/
import Derived.Test.YtonjnjkdebpilaaGreatDoorCards
import Derived.ProofKit

set_option maxRecDepth 100000
namespace Fw.Tz
open Go Go.Proofs Go.RowKit
open Go.Proofs.YtonjnjkdebpilaaGreatDoor
theorem Tj3_2 : (Rows.checkerGrantedUptoRow.unfollowed == Tryz.prog.unfollowed 3) = true := by kernel_rfl
theorem Tj3_3 : (Rows.checkerGrantedUptoRow.recurses == Tryz.prog.recurses 3) = true := by kernel_rfl
end Fw.Tz
