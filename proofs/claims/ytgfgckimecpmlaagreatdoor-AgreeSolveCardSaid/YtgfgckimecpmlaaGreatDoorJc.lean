/- A part of the proof. -/
import Derived.Test.YtgfgckimecpmlaaGreatDoorCards
import Derived.ProofKit
set_option maxRecDepth 100000
namespace Fw.Tz
open Go Go.Proofs Go.RowKit
open Go.Proofs.YtgfgckimecpmlaaGreatDoor
theorem Rx:(Rows.agreeSolveRow.named==Tryz.prog.varsNamed 6)=true:=by kernel_rfl
end Fw.Tz
namespace Fw.Tz
open Go Go.Proofs Go.RowKit
open Go.Proofs.YtgfgckimecpmlaaGreatDoor
theorem Ry:Rows.agreeSolveRow.wf (OpenSpec.ofChange Rows.agreeSolveSpec)=true:=by kernel_rfl
end Fw.Tz
