/- A part of the proof. -/
import Derived.Test.YtlgnmcfckgokdaaGreatDoorCards
import Derived.ProofKit

set_option maxRecDepth 100000
namespace Fw.Tz
open Go Go.Proofs Go.RowKit
open Go.Proofs.YtlgnmcfckgokdaaGreatDoor
theorem Tj10_4 : (Rows.primsAlgebraRow.named == Tryz.prog.varsNamed 10) = true := by kernel_rfl
end Fw.Tz


set_option maxRecDepth 100000
namespace Fw.Tz
open Go Go.Proofs Go.RowKit
open Go.Proofs.YtlgnmcfckgokdaaGreatDoor
theorem Tj10_5 : Rows.primsAlgebraRow.wf (OpenSpec.ofChange Rows.primsAlgebraSpec) = true := by kernel_rfl
end Fw.Tz
