/- A part of the proof. -/
import Derived.Test.YtgfgckimecpmlaaGreatDoorCards
import Derived.ProofKit
set_option maxRecDepth 100000
namespace Fw.Tz
open Go Go.Proofs Go.RowKit
open Go.Proofs.YtgfgckimecpmlaaGreatDoor
theorem OR:(Rows.primsUnderRow.named==Tryz.prog.varsNamed 10)=true:=by kernel_rfl
end Fw.Tz
namespace Fw.Tz
open Go Go.Proofs Go.RowKit
open Go.Proofs.YtgfgckimecpmlaaGreatDoor
theorem OS:Rows.primsUnderRow.wf (OpenSpec.ofChange Rows.primsUnderSpec)=true:=by kernel_rfl
end Fw.Tz
