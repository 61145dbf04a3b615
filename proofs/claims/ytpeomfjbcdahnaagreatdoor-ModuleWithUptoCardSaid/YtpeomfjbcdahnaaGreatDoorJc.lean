/- A part of the proof. -/
import Derived.Test.YtpeomfjbcdahnaaGreatDoorCards
import Derived.ProofKit
set_option maxRecDepth 100000
namespace Fw.Tz
open Go Go.Proofs Go.RowKit
open Go.Proofs.YtpeomfjbcdahnaaGreatDoor
theorem Qh:(Rows.moduleWithUptoRow.named==Tryz.prog.varsNamed 4)=true:=by kernel_rfl
end Fw.Tz
namespace Fw.Tz
open Go Go.Proofs Go.RowKit
open Go.Proofs.YtpeomfjbcdahnaaGreatDoor
theorem Qi:Rows.moduleWithUptoRow.wf (OpenSpec.ofChange (Rows.OpenSpec.upto Rows.moduleWithSpec).bare)=true:=by kernel_rfl
end Fw.Tz
