/- A part of the proof. -/
import Derived.Test.YtgfgckimecpmlaaGreatDoorCards
import Derived.ProofKit

set_option maxRecDepth 100000
namespace Fw.Tz
open Go Go.Proofs Go.RowKit
open Go.Proofs.YtgfgckimecpmlaaGreatDoor
theorem Tj8_4 : (Rows.agreeDimsRow.named == Tryz.prog.varsNamed 8) = true := by kernel_rfl
end Fw.Tz


set_option maxRecDepth 100000
namespace Fw.Tz
open Go Go.Proofs Go.RowKit
open Go.Proofs.YtgfgckimecpmlaaGreatDoor
theorem Tj8_5 : Rows.agreeDimsRow.wf (OpenSpec.ofChange Rows.agreeDimsSpec) = true := by kernel_rfl
end Fw.Tz
