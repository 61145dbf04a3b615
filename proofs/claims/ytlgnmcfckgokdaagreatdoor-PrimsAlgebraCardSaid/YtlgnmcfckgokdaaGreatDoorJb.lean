/- A part of the proof. -/
import Derived.Test.YtlgnmcfckgokdaaGreatDoorCards
import Derived.ProofKit

set_option maxRecDepth 100000
namespace Fw.Tz
open Go Go.Proofs Go.RowKit
open Go.Proofs.YtlgnmcfckgokdaaGreatDoor
theorem Tj10_2 : (Rows.primsAlgebraRow.unfollowed == Tryz.prog.unfollowed 10) = true := by kernel_rfl
theorem Tj10_3 : (Rows.primsAlgebraRow.recurses == Tryz.prog.recurses 10) = true := by kernel_rfl
end Fw.Tz
