import Derived.Test.YtlgnmcfckgokdaaGreatDoorCards
import Derived.ProofKit
set_option maxRecDepth 100000
namespace Fw.Tz
open Go Go.Proofs Go.RowKit
open Go.Proofs.YtlgnmcfckgokdaaGreatDoor
theorem Tj9_1 : (Rows.primsLawsRow.inPlace == Tryz.prog.inPlace 9) = true := by kernel_rfl
end Fw.Tz
