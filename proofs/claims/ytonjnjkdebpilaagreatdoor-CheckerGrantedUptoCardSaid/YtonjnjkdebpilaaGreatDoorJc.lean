/- A part of the proof. -/
import Derived.Test.YtonjnjkdebpilaaGreatDoorCards
import Derived.ProofKit

set_option maxRecDepth 100000
namespace Fw.Tz
open Go Go.Proofs Go.RowKit
open Go.Proofs.YtonjnjkdebpilaaGreatDoor
theorem Tj3_4 : (Rows.checkerGrantedUptoRow.named == Tryz.prog.varsNamed 3) = true := by kernel_rfl
end Fw.Tz


namespace Fw.Tz
open Go Go.Proofs Go.RowKit
open Go.Proofs.YtonjnjkdebpilaaGreatDoor
theorem Tj3_5 : Rows.checkerGrantedUptoRow.wf (OpenSpec.ofChange (Rows.OpenSpec.upto Rows.checkerGrantedSpec).bare) = true := by kernel_rfl
end Fw.Tz
