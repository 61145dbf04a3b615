/- A part of the proof. -/
import Derived.Test.YtpeomfjbcdahnaaGreatDoorCards
import Derived.ProofKit
set_option maxRecDepth 100000
namespace Fw.Tz
open Go Go.Proofs Go.RowKit
open Go.Proofs.YtpeomfjbcdahnaaGreatDoor
theorem Qf:(Rows.moduleWithUptoRow.unfollowed==Tryz.prog.unfollowed 4)=true:=by kernel_rfl
theorem Qg:(Rows.moduleWithUptoRow.recurses==Tryz.prog.recurses 4)=true:=by kernel_rfl
end Fw.Tz
