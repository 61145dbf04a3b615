import Derived.Test.YtlgnmcfckgokdaaGreatDoorCards
import Derived.ProofKit
set_option maxRecDepth 100000
namespace Fw.Tz
open Go Go.Proofs Go.RowKit
open Go.Proofs.YtlgnmcfckgokdaaGreatDoor
theorem Tj8_4 : (Rows.primsOperatorsRow.named == Tryz.prog.varsNamed 8) = true := by kernel_rfl
end Fw.Tz

set_option maxRecDepth 100000
namespace Fw.Tz
open Go Go.Proofs Go.RowKit
open Go.Proofs.YtlgnmcfckgokdaaGreatDoor
theorem Tj8_5 : Rows.primsOperatorsRow.wf (OpenSpec.ofChange Rows.primsOperatorsSpec) = true := by kernel_rfl
end Fw.Tz
