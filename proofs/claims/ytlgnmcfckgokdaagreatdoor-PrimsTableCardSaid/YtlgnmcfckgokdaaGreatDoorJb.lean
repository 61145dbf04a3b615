/- A part of the proof. -/
import Derived.Test.YtlgnmcfckgokdaaGreatDoorCards
import Derived.ProofKit

set_option maxRecDepth 100000
namespace Fw.Tz
open Go Go.Proofs Go.RowKit
open Go.Proofs.YtlgnmcfckgokdaaGreatDoor
theorem Tj7_2 : (Rows.primsTableRow.unfollowed == Tryz.prog.unfollowed 7) = true := by kernel_rfl
theorem Tj7_3 : (Rows.primsTableRow.recurses == Tryz.prog.recurses 7) = true := by kernel_rfl
end Fw.Tz
