/- A part of the proof. -/
import Derived.Test.YtgfgckimecpmlaaGreatDoorCards
import Derived.ProofKit

set_option maxRecDepth 100000
namespace Fw.Tz
open Go Go.Proofs Go.RowKit
open Go.Proofs.YtgfgckimecpmlaaGreatDoor
theorem Tj7_4 : (Rows.agreeScalarsRow.named == Tryz.prog.varsNamed 7) = true := by kernel_rfl
end Fw.Tz


namespace Fw.Tz
open Go Go.Proofs Go.RowKit
open Go.Proofs.YtgfgckimecpmlaaGreatDoor
theorem Tj7_5 : Rows.agreeScalarsRow.wf (OpenSpec.ofChange Rows.agreeScalarsSpec) = true := by kernel_rfl
end Fw.Tz
