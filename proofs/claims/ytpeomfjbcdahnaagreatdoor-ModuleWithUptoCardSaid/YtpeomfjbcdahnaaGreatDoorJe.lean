/- A part of the proof. -/
import Derived.Test.YtpeomfjbcdahnaaGreatDoorCards
import Derived.ProofKit
set_option maxRecDepth 100000
namespace Fw.Tz
open Go Go.Proofs Go.RowKit
open Go.Proofs.YtpeomfjbcdahnaaGreatDoor
theorem jx7:Tryz.prog.stopsHeard=true:=by kernel_rfl
theorem jx8:Tryz.prog.mayEnter=true:=by kernel_rfl
end Fw.Tz
namespace Fw.Tz
open Go Go.Proofs Go.RowKit
open Go.Proofs.YtpeomfjbcdahnaaGreatDoor
theorem jw6:(Rows.moduleWithUptoRow.lifted==Tryz.prog.liftsFinal)=true:=by kernel_rfl
theorem jw9:(Tryz.prog.make==some Rows.moduleWithUptoRow.make)=true:=by kernel_rfl
end Fw.Tz
