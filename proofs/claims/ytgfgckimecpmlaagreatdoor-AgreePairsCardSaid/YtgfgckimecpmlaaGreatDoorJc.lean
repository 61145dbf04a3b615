/- A part of the proof. -/
import Derived.Test.YtgfgckimecpmlaaGreatDoorCards
import Derived.ProofKit

set_option maxRecDepth 100000
namespace Fw.Tz
open Go Go.Proofs Go.RowKit
open Go.Proofs.YtgfgckimecpmlaaGreatDoor
theorem Tj4_4 : (Rows.agreePairsRow.named == Tryz.prog.varsNamed 4) = true := by kernel_rfl
end Fw.Tz


set_option maxRecDepth 100000
namespace Fw.Tz
open Go Go.Proofs Go.RowKit
open Go.Proofs.YtgfgckimecpmlaaGreatDoor
theorem Tj4_5 : Rows.agreePairsRow.wf (OpenSpec.ofChange Rows.agreePairsSpec) = true := by kernel_rfl
end Fw.Tz
