import Derived.Test.YtlgnmcfckgokdaaGreatDoorCards
import Derived.ProofKit
set_option maxRecDepth 100000
namespace Fw.Tz
open Go Go.Proofs Go.RowKit
open Go.Proofs.YtlgnmcfckgokdaaGreatDoor
theorem Tj9_4 : (Rows.primsLawsRow.named == Tryz.prog.varsNamed 9) = true := by kernel_rfl
end Fw.Tz

set_option maxRecDepth 100000
namespace Fw.Tz
open Go Go.Proofs Go.RowKit
open Go.Proofs.YtlgnmcfckgokdaaGreatDoor
theorem Tj9_5 : Rows.primsLawsRow.wf (OpenSpec.ofChange Rows.primsLawsSpec) = true := by kernel_rfl
end Fw.Tz
