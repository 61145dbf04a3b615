import Derived.Test.YtlgnmcfckgokdaaGreatDoorCards
import Derived.ProofKit
set_option maxRecDepth 100000
namespace Fw.Tz
open Go Go.Proofs Go.RowKit
open Go.Proofs.YtlgnmcfckgokdaaGreatDoor
theorem Tj9_2 : (Rows.primsLawsRow.unfollowed == Tryz.prog.unfollowed 9) = true := by kernel_rfl
theorem Tj9_3 : (Rows.primsLawsRow.recurses == Tryz.prog.recurses 9) = true := by kernel_rfl
end Fw.Tz
