/- A part of the proof. -/
import Derived.Test.YtpeomfjbcdahnaaGreatDoorCards
import Derived.ProofKit
set_option maxRecDepth 100000
namespace Fw.Tz
open Go Go.Proofs Go.RowKit
open Go.Proofs.YtpeomfjbcdahnaaGreatDoor
theorem Qd:(Rows.moduleNamesUptoRow.unfollowed==Tryz.prog.unfollowed 3)=true:=by kernel_rfl
theorem Qe:(Rows.moduleNamesUptoRow.recurses==Tryz.prog.recurses 3)=true:=by kernel_rfl
end Fw.Tz
