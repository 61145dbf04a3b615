/- A part of the proof. -/
import Derived.Test.YtlgnmcfckgokdaaGreatDoorCards
import Derived.ProofKit

set_option maxRecDepth 100000
namespace Fw.Tz
open Go Go.Proofs Go.RowKit
open Go.Proofs.YtlgnmcfckgokdaaGreatDoor
theorem Tj10_1 : (Rows.primsAlgebraRow.inPlace == Tryz.prog.inPlace 10) = true := by kernel_rfl
end Fw.Tz
