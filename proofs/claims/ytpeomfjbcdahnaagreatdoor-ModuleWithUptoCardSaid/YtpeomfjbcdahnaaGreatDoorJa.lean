/- A part of the proof. -/
import Derived.Test.YtpeomfjbcdahnaaGreatDoorCards
import Derived.ProofKit
set_option maxRecDepth 100000
namespace Fw.Tz
open Go Go.Proofs Go.RowKit
open Go.Proofs.YtpeomfjbcdahnaaGreatDoor
theorem Qe:(Rows.moduleWithUptoRow.inPlace==Tryz.prog.inPlace 4)=true:=by kernel_rfl
end Fw.Tz
