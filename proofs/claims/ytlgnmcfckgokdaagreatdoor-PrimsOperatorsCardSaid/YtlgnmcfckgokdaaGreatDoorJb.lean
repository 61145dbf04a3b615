import Derived.Test.YtlgnmcfckgokdaaGreatDoorCards
import Derived.ProofKit
set_option maxRecDepth 100000
namespace Fw.Tz
open Go Go.Proofs Go.RowKit
open Go.Proofs.YtlgnmcfckgokdaaGreatDoor
theorem Tj8_2 : (Rows.primsOperatorsRow.unfollowed == Tryz.prog.unfollowed 8) = true := by kernel_rfl
theorem Tj8_3 : (Rows.primsOperatorsRow.recurses == Tryz.prog.recurses 8) = true := by kernel_rfl
end Fw.Tz
