/- A part of the proof. -/
import Derived.Test.YtgfgckimecpmlaaGreatDoorCards
import Derived.ProofKit

set_option maxRecDepth 100000
namespace Fw.Tz
open Go Go.Proofs Go.RowKit
open Go.Proofs.YtgfgckimecpmlaaGreatDoor
theorem Tj5_4 : (Rows.agreeUniqueRow.named == Tryz.prog.varsNamed 5) = true := by kernel_rfl
end Fw.Tz


set_option maxRecDepth 100000
namespace Fw.Tz
open Go Go.Proofs Go.RowKit
open Go.Proofs.YtgfgckimecpmlaaGreatDoor
theorem Tj5_5 : Rows.agreeUniqueRow.wf (OpenSpec.ofChange Rows.agreeUniqueSpec) = true := by kernel_rfl
end Fw.Tz
