/- A part of the proof. -/
import Derived.Test.YtgfgckimecpmlaaGreatDoorCards
import Derived.ProofKit
set_option maxRecDepth 100000
namespace Fw.Tz
open Go Go.Proofs Go.RowKit
open Go.Proofs.YtgfgckimecpmlaaGreatDoor
theorem Ru:(Rows.agreeSolveRow.unfollowed==Tryz.prog.unfollowed 6)=true:=by kernel_rfl
theorem Rv:(Rows.agreeSolveRow.recurses==Tryz.prog.recurses 6)=true:=by kernel_rfl
end Fw.Tz
