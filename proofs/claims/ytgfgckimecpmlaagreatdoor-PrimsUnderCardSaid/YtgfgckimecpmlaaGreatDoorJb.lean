/- A part of the proof. -/
import Derived.Test.YtgfgckimecpmlaaGreatDoorCards
import Derived.ProofKit
set_option maxRecDepth 100000
namespace Fw.Tz
open Go Go.Proofs Go.RowKit
open Go.Proofs.YtgfgckimecpmlaaGreatDoor
theorem OP:(Rows.primsUnderRow.unfollowed==Tryz.prog.unfollowed 10)=true:=by kernel_rfl
theorem OQ:(Rows.primsUnderRow.recurses==Tryz.prog.recurses 10)=true:=by kernel_rfl
end Fw.Tz
