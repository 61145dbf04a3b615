import Derived.Test.YtlgnmcfckgokdaaGreatDoorCards
import Derived.ProofKit
set_option maxRecDepth 100000
namespace Fw.Tz
open Go Go.Proofs Go.RowKit
open Go.Proofs.YtlgnmcfckgokdaaGreatDoor
theorem Tj4_2 : (Rows.primsSchemesRow.unfollowed == Tryz.prog.unfollowed 4) = true := by kernel_rfl
theorem Tj4_3 : (Rows.primsSchemesRow.recurses == Tryz.prog.recurses 4) = true := by kernel_rfl
end Fw.Tz
