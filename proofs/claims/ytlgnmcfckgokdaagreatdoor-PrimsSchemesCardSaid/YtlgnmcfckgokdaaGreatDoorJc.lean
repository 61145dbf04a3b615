import Derived.Test.YtlgnmcfckgokdaaGreatDoorCards
import Derived.ProofKit
set_option maxRecDepth 100000
namespace Fw.Tz
open Go Go.Proofs Go.RowKit
open Go.Proofs.YtlgnmcfckgokdaaGreatDoor
theorem Tj4_4 : (Rows.primsSchemesRow.named == Tryz.prog.varsNamed 4) = true := by kernel_rfl
end Fw.Tz

set_option maxRecDepth 100000
namespace Fw.Tz
open Go Go.Proofs Go.RowKit
open Go.Proofs.YtlgnmcfckgokdaaGreatDoor
theorem Tj4_5 : Rows.primsSchemesRow.wf (OpenSpec.ofChange Rows.primsSchemesSpec) = true := by kernel_rfl
end Fw.Tz
