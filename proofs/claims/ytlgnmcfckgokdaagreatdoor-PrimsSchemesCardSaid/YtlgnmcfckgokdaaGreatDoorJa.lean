import Derived.Test.YtlgnmcfckgokdaaGreatDoorCards
import Derived.ProofKit
set_option maxRecDepth 100000
namespace Fw.Tz
open Go Go.Proofs Go.RowKit
open Go.Proofs.YtlgnmcfckgokdaaGreatDoor
theorem Tj4_1 : (Rows.primsSchemesRow.inPlace == Tryz.prog.inPlace 4) = true := by kernel_rfl
end Fw.Tz
