/- A part of the proof. -/
import Derived.Test.YtlgnmcfckgokdaaGreatDoorCards
import Derived.ProofKit

set_option maxRecDepth 100000
namespace Fw.Tz
open Go Go.Proofs Go.RowKit
open Go.Proofs.YtlgnmcfckgokdaaGreatDoor
theorem Tj6_2 : (Rows.primsDimsRow.unfollowed == Tryz.prog.unfollowed 6) = true := by kernel_rfl
theorem Tj6_3 : (Rows.primsDimsRow.recurses == Tryz.prog.recurses 6) = true := by kernel_rfl
end Fw.Tz
