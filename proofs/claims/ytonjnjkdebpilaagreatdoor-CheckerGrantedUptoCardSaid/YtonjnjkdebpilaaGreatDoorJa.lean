/- A part of the proof. -/
import Derived.Test.YtonjnjkdebpilaaGreatDoorCards
import Derived.ProofKit

set_option maxRecDepth 100000
namespace Fw.Tz
open Go Go.Proofs Go.RowKit
open Go.Proofs.YtonjnjkdebpilaaGreatDoor
theorem Tj3_1 : (Rows.checkerGrantedUptoRow.inPlace == Tryz.prog.inPlace 3) = true := by kernel_rfl
end Fw.Tz
