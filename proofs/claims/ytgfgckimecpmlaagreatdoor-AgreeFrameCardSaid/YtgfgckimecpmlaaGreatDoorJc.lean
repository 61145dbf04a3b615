/- A part of the proof. -/
import Derived.Test.YtgfgckimecpmlaaGreatDoorCards
import Derived.ProofKit

set_option maxRecDepth 100000
namespace Fw.Tz
open Go Go.Proofs Go.RowKit
open Go.Proofs.YtgfgckimecpmlaaGreatDoor
theorem Tj3_4 : (Rows.agreeFrameRow.named == Tryz.prog.varsNamed 3) = true := by kernel_rfl
end Fw.Tz


set_option maxRecDepth 100000
namespace Fw.Tz
open Go Go.Proofs Go.RowKit
open Go.Proofs.YtgfgckimecpmlaaGreatDoor
theorem Tj3_5 : Rows.agreeFrameRow.wf (OpenSpec.ofChange Rows.agreeFrameSpec) = true := by kernel_rfl
end Fw.Tz
