/- A part of the proof. -/
import Derived.Test.YtpeomfjbcdahnaaGreatDoorCards
import Derived.ProofKit
set_option maxRecDepth 100000
namespace Fw.Tz
open Go Go.Proofs Go.RowKit
open Go.Proofs.YtpeomfjbcdahnaaGreatDoor
theorem jx1:laidOutB Tryz.prog=true:=by kernel_rfl
theorem jx2:mapsRowed Tryz.prog=true:=by kernel_rfl
end Fw.Tz
