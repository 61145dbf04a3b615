/- A part of the proof. -/
import Derived.Test.YtgfgckimecpmlaaGreatDoorCards
import Derived.ProofKit

set_option maxRecDepth 100000
namespace Fw.Tz
open Go Go.Proofs Go.RowKit
open Go.Proofs.YtgfgckimecpmlaaGreatDoor
theorem Tj9_4 : (Rows.agreeValuesRow.named == Tryz.prog.varsNamed 9) = true := by kernel_rfl
end Fw.Tz


namespace Fw.Tz
open Go Go.Proofs Go.RowKit
open Go.Proofs.YtgfgckimecpmlaaGreatDoor
theorem Tj9_5 : Rows.agreeValuesRow.wf (OpenSpec.ofChange Rows.agreeValuesSpec) = true := by kernel_rfl
end Fw.Tz
