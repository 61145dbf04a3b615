/- A part of the proof. -/
import Derived.Test.YtlgnmcfckgokdaaGreatDoorCards
import Derived.ProofKit

set_option maxRecDepth 100000
namespace Fw.Tz
open Go Go.Proofs Go.RowKit
open Go.Proofs.YtlgnmcfckgokdaaGreatDoor
theorem Tj7_4 : (Rows.primsTableRow.named == Tryz.prog.varsNamed 7) = true := by kernel_rfl
end Fw.Tz


set_option maxRecDepth 100000
namespace Fw.Tz
open Go Go.Proofs Go.RowKit
open Go.Proofs.YtlgnmcfckgokdaaGreatDoor
theorem Tj7_5 : Rows.primsTableRow.wf (OpenSpec.ofChange Rows.primsTableSpec) = true := by kernel_rfl
end Fw.Tz
