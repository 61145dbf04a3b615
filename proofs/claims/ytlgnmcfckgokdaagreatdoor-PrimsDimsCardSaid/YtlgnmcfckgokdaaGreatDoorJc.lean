/- A part of the proof. -/
import Derived.Test.YtlgnmcfckgokdaaGreatDoorCards
import Derived.ProofKit

set_option maxRecDepth 100000
namespace Fw.Tz
open Go Go.Proofs Go.RowKit
open Go.Proofs.YtlgnmcfckgokdaaGreatDoor
theorem Tj6_4 : (Rows.primsDimsRow.named == Tryz.prog.varsNamed 6) = true := by kernel_rfl
end Fw.Tz


set_option maxRecDepth 100000
namespace Fw.Tz
open Go Go.Proofs Go.RowKit
open Go.Proofs.YtlgnmcfckgokdaaGreatDoor
theorem Tj6_5 : Rows.primsDimsRow.wf (OpenSpec.ofChange Rows.primsDimsSpec) = true := by kernel_rfl
end Fw.Tz
