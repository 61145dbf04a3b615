/- A part of the proof. -/
import Derived.Test.YtpeomfjbcdahnaaGreatDoorCards
import Derived.ProofKit
set_option maxRecDepth 100000
namespace Fw.Tz
open Go Go.Proofs Go.RowKit
open Go.Proofs.YtpeomfjbcdahnaaGreatDoor
theorem Qf:(Rows.moduleNamesUptoRow.named==Tryz.prog.varsNamed 3)=true:=by kernel_rfl
end Fw.Tz
namespace Fw.Tz
open Go Go.Proofs Go.RowKit
open Go.Proofs.YtpeomfjbcdahnaaGreatDoor
theorem Qg:Rows.moduleNamesUptoRow.wf (OpenSpec.ofChange (Rows.OpenSpec.upto Rows.moduleNamesSpec).bare)=true:=by kernel_rfl
end Fw.Tz
